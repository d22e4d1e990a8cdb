/- Texts in one. -/
import Derived.Test.YtmhhjpfkipficaaDoorHwB
import Derived.Test.YtmhhjpfkipficaaDoorFnC
import Derived.Test.YtmhhjpfkipficaaDoorKt2
section
/- What is said of blocks that nobody writes any more. -/
set_option linter.unusedSimpArgs false
set_option linter.unusedVariables false
namespace Go.Proofs.YtmhhjpfkipficaaDoor
open Go Go.HW

theorem idx_perm (L : List HP) (idx : List Nat) (h : idx.Perm (List.range L.length)) : L.Perm (idx.map fun i => L.getD i HP.emp) := by
  have e : (List.range L.length).map (fun i => L.getD i HP.emp) = L := by
    refine List.ext_getElem (by simp) (fun i h1 h2 => ?_)
    simp [List.getD_eq_getElem?_getD, List.getElem?_eq_getElem h2]
  have := (h.map fun i => L.getD i HP.emp).symm
  rwa [e] at this
/-- The first ones in another order. -/
theorem selF {h0 h : Heap} {F L : List HP} (s : HW.Sep h0 (L ++ F) h) (idx : List Nat) (hn : L.length = idx.length) (hp : idx.Perm (List.range idx.length)) : HW.Sep h0 ((idx.map fun i => L.getD i HP.emp) ++ F) h := s.perm ((idx_perm L idx (hn ▸ hp)).append_right F)

structure FQ where
  P : (Nat → Prop) → Heap → Prop
  loc : ∀ {s : Nat → Prop} {h h' : Heap}, P s h → (∀ b, s b → h'[b]? = h[b]?) → P s h'
  mono : ∀ {s t : Nat → Prop} {h : Heap}, P s h → (∀ b, s b → t b) → P t h
def Fr (A : FQ) : HP where
  P s h := (∀ b, s b → b < h.size) ∧ A.P s h
  loc := fun {s h h'} p e => ⟨fun b hb => by
      have e := e b hb
      rw [Array.getElem?_eq_getElem (p.1 b hb)] at e
      exact (Array.getElem?_eq_some_iff.1 e).1, A.loc p.2 e⟩
  dom := fun p => p.1
section
variable {α : Type}
theorem seq_keepG {enc : α → List Value} {sz : Nat} {h h' : Heap} {v : Value} {l : List α} (a : Seq enc sz h v l) (e : ∀ b o n m, v = .slice (some ⟨b, o, none⟩) n m → l ≠ [] → h'[b]? = h[b]?) : Seq enc sz h' v l := by
  obtain ⟨a, n, m, rfl, hn, hm, h0 | ⟨b, o, rfl, hb, hc⟩⟩ := a
  · exact ⟨_, _, _, rfl, hn, hm, .inl h0⟩
  · by_cases hl : l = []
    · subst hl; exact ⟨_, _, _, rfl, hn, hm, .inl hn.symm⟩
    · have e := e b o n m rfl hl
      have hs : b < h'.size := by
        rw [Array.getElem?_eq_getElem hb] at e
        exact (Array.getElem?_eq_some_iff.1 e).1
      refine ⟨_, _, _, rfl, hn, hm, .inr ⟨b, o, rfl, hs, fun j x hj i u hu => ?_⟩⟩
      have := hc j x hj i u hu
      unfold Heap.at at this ⊢
      rw [e]; exact this
def FQ.sq (enc : α → List Value) (sz : Nat) (v : Value) (l : List α) : FQ where
  P s h := Seq enc sz h v l ∧ (l ≠ [] → ∃ b o n m, v = .slice (some ⟨b, o, none⟩) n m ∧ s b)
  loc := fun p e => ⟨seq_keepG p.1 (fun b o n m hv hl => by
      obtain ⟨b', o', n', m', hv', hs⟩ := p.2 hl
      rw [hv] at hv'
      cases hv'
      exact e b hs), p.2⟩
  mono := fun p m => ⟨p.1, fun hl => let ⟨b, o, n, k, e, hs⟩ := p.2 hl; ⟨b, o, n, k, e, m b hs⟩⟩
end
def FQ.and (A B : FQ) : FQ := ⟨fun s h => A.P s h ∧ B.P s h, fun p e => ⟨A.loc p.1 e, B.loc p.2 e⟩, fun p m => ⟨A.mono p.1 m, B.mono p.2 m⟩⟩
def FQ.all {ι : Type} (l : List ι) (A : ι → FQ) : FQ := ⟨fun s h => ∀ x ∈ l, (A x).P s h, fun p e x hx => (A x).loc (p x hx) e, fun p m x hx => (A x).mono (p x hx) m⟩
def FQ.ex {ι : Type} (A : ι → FQ) : FQ := ⟨fun s h => ∃ x, (A x).P s h, fun ⟨x, p⟩ e => ⟨x, (A x).loc p e⟩, fun ⟨x, p⟩ m => ⟨x, (A x).mono p m⟩⟩
def FQ.fact (q : Prop) : FQ := ⟨fun _ _ => q, fun p _ => p, fun p _ => p⟩
section
variable {h0 h : Heap} {F : List HP} {A B : FQ} {α : Type} {enc : α → List Value} {sz : Nat} {v : Value} {l : List α}
theorem fr_conv (s : HW.Sep h0 (Fr A :: F) h) (H : ∀ t, A.P t h → B.P t h) : HW.Sep h0 (Fr B :: F) h := s.conv fun t p => ⟨p.1, H t p.2⟩
theorem fr_get (s : HW.Sep h0 (Fr A :: F) h) : ∃ t, A.P t h := let ⟨t, p, _⟩ := s.head; ⟨t, p.2⟩
theorem fr_nil (s : HW.Sep h0 F h) : HW.Sep h0 (Fr (.fact True) :: F) h :=
  s.add1 (A := Fr (.fact True)) ⟨⟨fun _ => False, ⟨fun _ => False, fun _ => False, ⟨fun _ h => h.elim, trivial⟩, fun _ h => h, fun _ _ h => h, fun b => by simp⟩, fun _ h => h.elim⟩, Ext.refl h⟩
theorem fr_add (s : HW.Sep h0 (Fr A :: Sl enc sz v l :: F) h) : HW.Sep h0 (Fr (A.and (.sq enc sz v l)) :: F) h := by
  have s2 : HW.Sep h0 (HP.all [Fr A, Sl enc sz v l] :: F) h := Sep.shut_all (L := [_, _]) s
  refine s2.conv fun t ⟨s1, s2, a, ⟨s3, s4, ⟨k, o, hk⟩, e4, _, u2⟩, _, u⟩ => ⟨fun b hb => ?_, A.mono a.2 (fun b hb => (u b).2 (.inl hb)), o.seq, fun hl => ?_⟩
  · rcases (u b).1 hb with h1 | h1
    · exact a.1 b h1
    · rcases (u2 b).1 h1 with h2 | h2
      · exact o.lt ((hk b).1 h2).symm
      · exact (e4 b h2).elim
  · rcases o with ⟨_, _, e⟩ | ⟨b, p, n, m, c, t', e, rfl, _⟩
    · exact (hl e).elim
    · exact ⟨b, p, n, m, rfl, (u b).2 (.inr ((u2 b).2 (.inl ((hk b).2 e.symm))))⟩
theorem fr_join (s : HW.Sep h0 (Fr A :: Fr B :: F) h) : HW.Sep h0 (Fr (A.and B) :: F) h := by
  have s2 : HW.Sep h0 (HP.all [Fr A, Fr B] :: F) h := Sep.shut_all (L := [_, _]) s
  refine s2.conv fun t ⟨s1, s2, a, ⟨s3, s4, c, e4, _, u2⟩, _, u⟩ => ⟨fun b hb => ?_, A.mono a.2 (fun b hb => (u b).2 (.inl hb)), B.mono c.2 (fun b hb => (u b).2 (.inr ((u2 b).2 (.inl hb))))⟩
  rcases (u b).1 hb with h1 | h1
  · exact a.1 b h1
  · rcases (u2 b).1 h1 with h2 | h2
    · exact c.1 b h2
    · exact (e4 b h2).elim
end
end Go.Proofs.YtmhhjpfkipficaaDoor

end

section
/- The shallow reading of one function, and that the function does it. Written by a program. -/
set_option linter.unusedVariables false
namespace Go.Proofs.YtmhhjpfkipficaaDoor
open Go Go.HW

def screen_Screen_down_S (x0 x1 x2 : Value) (h : Heap) (R : Value → Heap → Prop) : Prop :=
  sNil x0 fun x8 =>
  sOff x8 20 fun x9 =>
  sLd h x9 fun x10 =>
  sSub .i64 x10 x1 fun x12 =>
  sAdd .i64 x12 (.int .i64 1) fun x13 =>
  sMin x2 x13 fun x14 =>
  sLt x14 (.int .i64 1) fun x16 =>
  sIf x16 (R unit h) (sNil x0 fun x18 =>
  sOff x18 0 fun x19 =>
  sLd h x19 fun x20 =>
  sNil x0 fun x23 =>
  sOff x23 1 fun x24 =>
  sLd h x24 fun x25 =>
  sNil x0 fun x27 =>
  sOff x27 20 fun x28 =>
  sLd h x28 fun x29 =>
  sSub .i64 x29 x1 fun x31 =>
  sAdd .i64 x31 (.int .i64 1) fun x32 =>
  sSub .i64 x32 x14 fun x34 =>
  sBuild #[.int .i64 0, .int .i64 0, .int .i64 0, .int .i64 0] [(1, 1, x1), (2, 1, x25), (3, 1, x34)] fun x35 =>
  sAdd .i64 x1 x14 fun x38 =>
  grid_Grid_Copy_c x20 x35 (.int .i64 0) x38 h fun x39 h => 
  ∃ C : Heap → Prop, C h ∧ (sNil x0 fun x41 =>
  sOff x41 0 fun x42 =>
  sLdC C x42 fun x43 =>
  sNil x0 fun x46 =>
  sOff x46 1 fun x47 =>
  sLdC C x47 fun x48 =>
  sBuild #[.int .i64 0, .int .i64 0, .int .i64 0, .int .i64 0] [(1, 1, x1), (2, 1, x48), (3, 1, x14)] fun x50 =>
  screen_Screen_blank_c x0 h fun x52 h_1 => C h_1 ∧ (
  grid_Grid_Fill_c x43 x50 x52 h_1 fun x53 h_2 => 
  R unit h_2)))
set_option maxRecDepth 100000 in
theorem screen_Screen_down_runs {x0 x1 x2 : Value} {h : Heap} {R : Value → Heap → Prop} (H : screen_Screen_down_S x0 x1 x2 h R) : screen_Screen_down_c x0 x1 x2 h R := by
  unfold screen_Screen_down_S at H
  refine runs_of (b := ⟨#[x0, x1, x2, undef, undef, undef, undef, undef, undef, undef, undef, undef, undef, undef, undef, undef, undef, undef, undef, undef, undef, undef, undef, undef, undef, undef, undef, undef, undef, undef, undef, undef, undef, undef, undef, undef, undef, undef, undef, undef, undef, undef, undef, undef, undef, undef, undef, undef, undef, undef, undef, undef, undef, undef], []⟩) Tryd.call75 Tryd.func75 rfl (by kernel_rfl) (fun w0 HA => ?_)
  refine wp_seq ?_
  refine lwp_list ?_
  refine ls_move (x := x2) (by kernel_rfl) (by kernel_rfl) ?_
  refine ls_move (x := x0) (by kernel_rfl) (by kernel_rfl) ?_
  refine ls_p (d := some 8) (by kernel_rfl) (by kernel_rfl) (p_nil (by kernel_rfl) H) (fun x8 H => ?_)
  refine ls_p (d := some 9) (by kernel_rfl) (by kernel_rfl) (p_off Tryd.underlying64 rfl (fun w => ⟨_, Tryd.sizeOf3 w⟩) rfl (by kernel_rfl) H) (fun x9 H => ?_)
  refine ls_y (d := some 10) (by kernel_rfl) (by kernel_rfl) HA (y_ld Tryd.isAgg3 (by kernel_rfl) H) (fun x10 H => ?_)
  refine ls_move (x := x1) (by kernel_rfl) (by kernel_rfl) ?_
  refine ls_fr (b := ⟨#[x0, x1, x2, undef, undef, undef, x2, x0, x8, x9, x10, x1, undef, undef, undef, undef, undef, undef, undef, undef, undef, undef, undef, undef, undef, undef, undef, undef, undef, undef, undef, undef, undef, undef, undef, undef, undef, undef, undef, undef, undef, undef, undef, undef, undef, undef, undef, undef, undef, undef, undef, undef, undef, undef], []⟩) (by kernel_rfl) ?_
  refine ls_p (d := some 12) (by kernel_rfl) (by kernel_rfl) (p_sub (by kernel_rfl) (by kernel_rfl) H) (fun x12 H => ?_)
  refine ls_p (d := some 13) (by kernel_rfl) (by kernel_rfl) (p_add (by kernel_rfl) (by kernel_rfl) H) (fun x13 H => ?_)
  refine ls_p (d := some 14) (by kernel_rfl) (by kernel_rfl) (p_min (by kernel_rfl) (by kernel_rfl) H) (fun x14 H => ?_)
  refine ls_assign (x := x14) (by kernel_rfl) (by kernel_rfl) ?_
  refine ls_nil ?_
  refine then_normal ?_
  refine fr_eq (b := ⟨#[x0, x1, x14, undef, undef, undef, x2, x0, x8, x9, x10, x1, x12, x13, x14, undef, undef, undef, undef, undef, undef, undef, undef, undef, undef, undef, undef, undef, undef, undef, undef, undef, undef, undef, undef, undef, undef, undef, undef, undef, undef, undef, undef, undef, undef, undef, undef, undef, undef, undef, undef, undef, undef, undef], []⟩) (by kernel_rfl) ?_
  refine wp_seq ?_
  refine wp_seq ?_
  refine lwp_list ?_
  refine ls_move (x := x14) (by kernel_rfl) (by kernel_rfl) ?_
  refine ls_p (d := some 16) (by kernel_rfl) (by kernel_rfl) (p_sLt (by kernel_rfl) (by kernel_rfl) H) (fun x16 H => ?_)
  refine ls_nil ?_
  refine then_normal ?_
  refine fr_eq (b := ⟨#[x0, x1, x14, undef, undef, undef, x2, x0, x8, x9, x10, x1, x12, x13, x14, x14, x16, undef, undef, undef, undef, undef, undef, undef, undef, undef, undef, undef, undef, undef, undef, undef, undef, undef, undef, undef, undef, undef, undef, undef, undef, undef, undef, undef, undef, undef, undef, undef, undef, undef, undef, undef, undef, undef], []⟩) (by kernel_rfl) ?_
  refine wp_if rfl H (fun H => ?_) (fun H => ?_)
  · refine wp_ret ?_
    refine then_ret ?_
    exact end0 (Tryd.results75) (by kernel_rfl) HA H _ (.inr rfl)
  · refine wp_skip ?_
    refine then_normal ?_
    refine fr_eq (b := ⟨#[x0, x1, x14, undef, undef, undef, x2, x0, x8, x9, x10, x1, x12, x13, x14, x14, x16, undef, undef, undef, undef, undef, undef, undef, undef, undef, undef, undef, undef, undef, undef, undef, undef, undef, undef, undef, undef, undef, undef, undef, undef, undef, undef, undef, undef, undef, undef, undef, undef, undef, undef, undef, undef, undef], []⟩) (by kernel_rfl) ?_
    refine wp_seq ?_
    refine lwp_mx (Nat.testBit 4194304) (Nat.testBit 0) (Nat.testBit 4189943) [0, 1, 3, 7, 0, 0, 32, 96, 224, 0, 512, 1536, 3584, 0, 15872, 32256, 0, 130560, 262128, 0, 0, 1572864, 4194303] (Nat.testBit 0) (fun h' => h' = h) [0, 1, 2, 3, 4, 5, 6, 7, 8, 9, 10, 11, 12, 13, 14, 15, 16, 17, 18, 19, 20, 21, 22] (by kernel_rfl) (by kernel_rfl) (by kernel_rfl) (by kernel_rfl) HA rfl ?_
    intro w HA
    refine lm_al (x := x0) (d := some 17) (by kernel_rfl) rfl (by kernel_rfl) (by kernel_rfl) (al_move (by kernel_rfl)) ?_
    refine lm_p (d := some 18) (by kernel_rfl) rfl (by kernel_rfl) (by kernel_rfl) (p_nil (by kernel_rfl) H) (fun x18 H => ?_)
    refine lm_p (d := some 19) (by kernel_rfl) rfl (by kernel_rfl) (by kernel_rfl) (p_off Tryd.underlying64 rfl (fun w => ⟨_, Tryd.sizeOf54 w⟩) rfl (by kernel_rfl) H) (fun x19 H => ?_)
    refine lm_f (d := some 20) (by kernel_rfl) rfl (by kernel_rfl) (by kernel_rfl) (by kernel_rfl) (by kernel_rfl) (of_eq (y_ld Tryd.isAgg54 (by kernel_rfl) H)) (fun x20 H => ?_)
    refine lm_al (x := x1) (d := some 21) (by kernel_rfl) rfl (by kernel_rfl) (by kernel_rfl) (al_move (by kernel_rfl)) ?_
    refine lm_al (x := x0) (d := some 22) (by kernel_rfl) rfl (by kernel_rfl) (by kernel_rfl) (al_move (by kernel_rfl)) ?_
    refine lm_fr (b := ⟨#[x0, x1, x14, undef, undef, undef, x2, x0, x8, x9, x10, x1, x12, x13, x14, x14, x16, x0, x18, x19, x20, x1, x0, undef, undef, undef, undef, undef, undef, undef, undef, undef, undef, undef, undef, undef, undef, undef, undef, undef, undef, undef, undef, undef, undef, undef, undef, undef, undef, undef, undef, undef, undef, undef], []⟩) (by kernel_rfl) ?_
    refine lm_p (d := some 23) (by kernel_rfl) rfl (by kernel_rfl) (by kernel_rfl) (p_nil (by kernel_rfl) H) (fun x23 H => ?_)
    refine lm_p (d := some 24) (by kernel_rfl) rfl (by kernel_rfl) (by kernel_rfl) (p_off Tryd.underlying64 rfl (fun w => ⟨_, Tryd.sizeOf3 w⟩) rfl (by kernel_rfl) H) (fun x24 H => ?_)
    refine lm_f (d := some 25) (by kernel_rfl) rfl (by kernel_rfl) (by kernel_rfl) (by kernel_rfl) (by kernel_rfl) (of_eq (y_ld Tryd.isAgg3 (by kernel_rfl) H)) (fun x25 H => ?_)
    refine lm_al (x := x0) (d := some 26) (by kernel_rfl) rfl (by kernel_rfl) (by kernel_rfl) (al_move (by kernel_rfl)) ?_
    refine lm_p (d := some 27) (by kernel_rfl) rfl (by kernel_rfl) (by kernel_rfl) (p_nil (by kernel_rfl) H) (fun x27 H => ?_)
    refine lm_p (d := some 28) (by kernel_rfl) rfl (by kernel_rfl) (by kernel_rfl) (p_off Tryd.underlying64 rfl (fun w => ⟨_, Tryd.sizeOf3 w⟩) rfl (by kernel_rfl) H) (fun x28 H => ?_)
    refine lm_fr (b := ⟨#[x0, x1, x14, undef, undef, undef, x2, x0, x8, x9, x10, x1, x12, x13, x14, x14, x16, x0, x18, x19, x20, x1, x0, x23, x24, x25, x0, x27, x28, undef, undef, undef, undef, undef, undef, undef, undef, undef, undef, undef, undef, undef, undef, undef, undef, undef, undef, undef, undef, undef, undef, undef, undef, undef], []⟩) (by kernel_rfl) ?_
    refine lm_f (d := some 29) (by kernel_rfl) rfl (by kernel_rfl) (by kernel_rfl) (by kernel_rfl) (by kernel_rfl) (of_eq (y_ld Tryd.isAgg3 (by kernel_rfl) H)) (fun x29 H => ?_)
    refine lm_al (x := x1) (d := some 30) (by kernel_rfl) rfl (by kernel_rfl) (by kernel_rfl) (al_move (by kernel_rfl)) ?_
    refine lm_p (d := some 31) (by kernel_rfl) rfl (by kernel_rfl) (by kernel_rfl) (p_sub (by kernel_rfl) (by kernel_rfl) H) (fun x31 H => ?_)
    refine lm_p (d := some 32) (by kernel_rfl) rfl (by kernel_rfl) (by kernel_rfl) (p_add (by kernel_rfl) (by kernel_rfl) H) (fun x32 H => ?_)
    refine lm_al (x := x14) (d := some 33) (by kernel_rfl) rfl (by kernel_rfl) (by kernel_rfl) (al_move (by kernel_rfl)) ?_
    refine lm_p (d := some 34) (by kernel_rfl) rfl (by kernel_rfl) (by kernel_rfl) (p_sub (by kernel_rfl) (by kernel_rfl) H) (fun x34 H => ?_)
    refine lm_fr (b := ⟨#[x0, x1, x14, undef, undef, undef, x2, x0, x8, x9, x10, x1, x12, x13, x14, x14, x16, x0, x18, x19, x20, x1, x0, x23, x24, x25, x0, x27, x28, x29, x1, x31, x32, x14, x34, undef, undef, undef, undef, undef, undef, undef, undef, undef, undef, undef, undef, undef, undef, undef, undef, undef, undef, undef], []⟩) (by kernel_rfl) ?_
    refine lm_p (d := some 35) (by kernel_rfl) rfl (by kernel_rfl) (by kernel_rfl) (p_lit (pl := [(0, 1), (1, 1), (2, 1), (3, 1)]) Tryd.zeroValue83 Tryd.underlying83 ⟨(by kernel_rfl), Tryd.sizeOf3, (by kernel_rfl), Tryd.sizeOf3, (by kernel_rfl), Tryd.sizeOf3, (by kernel_rfl), Tryd.sizeOf3, trivial⟩ (by kernel_rfl) (by kernel_rfl) H) (fun x35 H => ?_)
    refine lm_al (x := x1) (d := some 36) (by kernel_rfl) rfl (by kernel_rfl) (by kernel_rfl) (al_move (by kernel_rfl)) ?_
    refine lm_al (x := x14) (d := some 37) (by kernel_rfl) rfl (by kernel_rfl) (by kernel_rfl) (al_move (by kernel_rfl)) ?_
    refine lm_p (d := some 38) (by kernel_rfl) rfl (by kernel_rfl) (by kernel_rfl) (p_add (by kernel_rfl) (by kernel_rfl) H) (fun x38 H => ?_)
    refine lm_d (d := some 39) (by kernel_rfl) rfl (by kernel_rfl) (by kernel_rfl) (by kernel_rfl) HA (d_call (by kernel_rfl) (by kernel_rfl) H) (fun x39 h w_1 H HA_1 => ?_)
    refine lm_nil ?_
    refine then_normal ?_
    refine fr_eq (b := ⟨#[x0, x1, x14, undef, undef, undef, x2, x0, x8, x9, x10, x1, x12, x13, x14, x14, x16, x0, x18, x19, x20, x1, x0, x23, x24, x25, x0, x27, x28, x29, x1, x31, x32, x14, x34, x35, x1, x14, x38, x39, undef, undef, undef, undef, undef, undef, undef, undef, undef, undef, undef, undef, undef, undef], []⟩) (by kernel_rfl) ?_
    obtain ⟨C, HC, H⟩ := H
    refine lwp_mx (Nat.testBit 12288) (Nat.testBit 4096) (Nat.testBit 3831) [0, 1, 3, 7, 0, 0, 32, 96, 224, 0, 1008, 0, 2048, 8191] (Nat.testBit 0) C [0, 1, 2, 3, 4, 5, 6, 7, 8, 9, 10, 11, 12, 13] (by kernel_rfl) (by kernel_rfl) (by kernel_rfl) (by kernel_rfl) HA_1 HC ?_
    intro w_2 HA_2
    refine lm_al (x := x0) (d := some 40) (by kernel_rfl) rfl (by kernel_rfl) (by kernel_rfl) (al_move (by kernel_rfl)) ?_
    refine lm_p (d := some 41) (by kernel_rfl) rfl (by kernel_rfl) (by kernel_rfl) (p_nil (by kernel_rfl) H) (fun x41 H => ?_)
    refine lm_p (d := some 42) (by kernel_rfl) rfl (by kernel_rfl) (by kernel_rfl) (p_off Tryd.underlying64 rfl (fun w => ⟨_, Tryd.sizeOf54 w⟩) rfl (by kernel_rfl) H) (fun x42 H => ?_)
    refine lm_f (d := some 43) (by kernel_rfl) rfl (by kernel_rfl) (by kernel_rfl) (by kernel_rfl) (by kernel_rfl) (c_ld Tryd.isAgg54 (by kernel_rfl) H) (fun x43 H => ?_)
    refine lm_al (x := x1) (d := some 44) (by kernel_rfl) rfl (by kernel_rfl) (by kernel_rfl) (al_move (by kernel_rfl)) ?_
    refine lm_al (x := x0) (d := some 45) (by kernel_rfl) rfl (by kernel_rfl) (by kernel_rfl) (al_move (by kernel_rfl)) ?_
    refine lm_fr (b := ⟨#[x0, x1, x14, undef, undef, undef, x2, x0, x8, x9, x10, x1, x12, x13, x14, x14, x16, x0, x18, x19, x20, x1, x0, x23, x24, x25, x0, x27, x28, x29, x1, x31, x32, x14, x34, x35, x1, x14, x38, x39, x0, x41, x42, x43, x1, x0, undef, undef, undef, undef, undef, undef, undef, undef], []⟩) (by kernel_rfl) ?_
    refine lm_p (d := some 46) (by kernel_rfl) rfl (by kernel_rfl) (by kernel_rfl) (p_nil (by kernel_rfl) H) (fun x46 H => ?_)
    refine lm_p (d := some 47) (by kernel_rfl) rfl (by kernel_rfl) (by kernel_rfl) (p_off Tryd.underlying64 rfl (fun w => ⟨_, Tryd.sizeOf3 w⟩) rfl (by kernel_rfl) H) (fun x47 H => ?_)
    refine lm_f (d := some 48) (by kernel_rfl) rfl (by kernel_rfl) (by kernel_rfl) (by kernel_rfl) (by kernel_rfl) (c_ld Tryd.isAgg3 (by kernel_rfl) H) (fun x48 H => ?_)
    refine lm_al (x := x14) (d := some 49) (by kernel_rfl) rfl (by kernel_rfl) (by kernel_rfl) (al_move (by kernel_rfl)) ?_
    refine lm_p (d := some 50) (by kernel_rfl) rfl (by kernel_rfl) (by kernel_rfl) (p_lit (pl := [(0, 1), (1, 1), (2, 1), (3, 1)]) Tryd.zeroValue83 Tryd.underlying83 ⟨(by kernel_rfl), Tryd.sizeOf3, (by kernel_rfl), Tryd.sizeOf3, (by kernel_rfl), Tryd.sizeOf3, (by kernel_rfl), Tryd.sizeOf3, trivial⟩ (by kernel_rfl) (by kernel_rfl) H) (fun x50 H => ?_)
    refine lm_al (x := x0) (d := some 51) (by kernel_rfl) rfl (by kernel_rfl) (by kernel_rfl) (al_move (by kernel_rfl)) ?_
    refine lm_fr (b := ⟨#[x0, x1, x14, undef, undef, undef, x2, x0, x8, x9, x10, x1, x12, x13, x14, x14, x16, x0, x18, x19, x20, x1, x0, x23, x24, x25, x0, x27, x28, x29, x1, x31, x32, x14, x34, x35, x1, x14, x38, x39, x0, x41, x42, x43, x1, x0, x46, x47, x48, x14, x50, x0, undef, undef], []⟩) (by kernel_rfl) ?_
    refine lm_dc (d := some 52) (by kernel_rfl) rfl (by kernel_rfl) (by kernel_rfl) (by kernel_rfl) HA_2 (d_call (by kernel_rfl) (by kernel_rfl) H) (fun x52 h_1 w_3 H HA_3 => ?_)
    refine lm_d (d := some 53) (by kernel_rfl) rfl (by kernel_rfl) (by kernel_rfl) (by kernel_rfl) HA_3 (d_call (by kernel_rfl) (by kernel_rfl) H) (fun x53 h_2 w_4 H HA_4 => ?_)
    refine lm_nil ?_
    exact end0 (Tryd.results75) (by kernel_rfl) HA_4 H _ (.inl rfl)

end Go.Proofs.YtmhhjpfkipficaaDoor

end

section
/- The shallow reading of one function, and that the function does it. Written by a program. -/
set_option linter.unusedVariables false
namespace Go.Proofs.YtmhhjpfkipficaaDoor
open Go Go.HW

def screen_Screen_Scroll_S (x0 x1 : Value) (h : Heap) (R : Value → Heap → Prop) : Prop :=
  screen_Screen_cur_c x0 h fun x5 h => 
  sNil x5 fun x6 =>
  sOff x6 2 fun x7 =>
  sSt h x7 (.bool false) fun h_1 => 
  sGt x1 (.int .i64 0) fun x9 =>
  sIf x9 (screen_Screen_scrollUp_c x0 x1 h_1 fun x12 h_2 => 
  R unit h_2) (sNil x0 fun x15 =>
  sOff x15 19 fun x16 =>
  sLd h_1 x16 fun x17 =>
  sNil x0 fun x20 =>
  sOff x20 2 fun x21 =>
  sLd h_1 x21 fun x22 =>
  sNeg .i64 x22 fun x23 =>
  sMax x1 x23 fun x24 =>
  sNeg .i64 x24 fun x25 =>
  screen_Screen_down_c x0 x17 x25 h_1 fun x26 h_3 => 
  R unit h_3)
set_option maxRecDepth 100000 in
theorem screen_Screen_Scroll_runs {x0 x1 : Value} {h : Heap} {R : Value → Heap → Prop} (H : screen_Screen_Scroll_S x0 x1 h R) : screen_Screen_Scroll_c x0 x1 h R := by
  unfold screen_Screen_Scroll_S at H
  refine runs_of (b := ⟨#[x0, x1, undef, undef, undef, undef, undef, undef, undef, undef, undef, undef, undef, undef, undef, undef, undef, undef, undef, undef, undef, undef, undef, undef, undef, undef, undef], []⟩) Tryd.call26 Tryd.func26 rfl (by kernel_rfl) (fun w0 HA => ?_)
  refine wp_seq ?_
  refine lwp_list ?_
  refine ls_move (x := x0) (by kernel_rfl) (by kernel_rfl) ?_
  refine ls_d (d := some 5) (by kernel_rfl) (by kernel_rfl) HA (d_call (by kernel_rfl) (by kernel_rfl) H) (fun x5 h w H HA => ?_)
  refine ls_p (d := some 6) (by kernel_rfl) (by kernel_rfl) (p_nil (by kernel_rfl) H) (fun x6 H => ?_)
  refine ls_p (d := some 7) (by kernel_rfl) (by kernel_rfl) (p_off Tryd.underlying38 rfl (fun w => ⟨_, Tryd.sizeOf4 w⟩) rfl (by kernel_rfl) H) (fun x7 H => ?_)
  refine ls_d (d := none) (by kernel_rfl) (by kernel_rfl) HA (d_st Tryd.sizeOf4 (by kernel_rfl) (by kernel_rfl) H) (fun _ h_1 w_1 H HA_1 => ?_)
  refine ls_nil ?_
  refine then_normal ?_
  refine fr_eq (b := ⟨#[x0, x1, undef, undef, x0, x5, x6, x7, undef, undef, undef, undef, undef, undef, undef, undef, undef, undef, undef, undef, undef, undef, undef, undef, undef, undef, undef], []⟩) (by kernel_rfl) ?_
  refine wp_seq ?_
  refine lwp_list ?_
  refine ls_move (x := x1) (by kernel_rfl) (by kernel_rfl) ?_
  refine ls_p (d := some 9) (by kernel_rfl) (by kernel_rfl) (p_sGt (by kernel_rfl) (by kernel_rfl) H) (fun x9 H => ?_)
  refine ls_nil ?_
  refine then_normal ?_
  refine fr_eq (b := ⟨#[x0, x1, undef, undef, x0, x5, x6, x7, x1, x9, undef, undef, undef, undef, undef, undef, undef, undef, undef, undef, undef, undef, undef, undef, undef, undef, undef], []⟩) (by kernel_rfl) ?_
  refine wp_if rfl H (fun H => ?_) (fun H => ?_)
  · refine lwp_list ?_
    refine ls_move (x := x0) (by kernel_rfl) (by kernel_rfl) ?_
    refine ls_move (x := x1) (by kernel_rfl) (by kernel_rfl) ?_
    refine ls_d (d := some 12) (by kernel_rfl) (by kernel_rfl) HA_1 (d_call (by kernel_rfl) (by kernel_rfl) H) (fun x12 h_2 w_2 H HA_2 => ?_)
    refine ls_nil ?_
    exact end0 (Tryd.results26) (by kernel_rfl) HA_2 H _ (.inl rfl)
  · refine lwp_mx (Nat.testBit 8192) (Nat.testBit 0) (Nat.testBit 7663) [0, 0, 2, 6, 14, 0, 0, 64, 192, 448, 960, 2016, 4064, 8191] (Nat.testBit 0) (fun h' => h' = h_1) [0, 1, 2, 3, 4, 5, 6, 7, 8, 9, 10, 11, 12, 13] (by kernel_rfl) (by kernel_rfl) (by kernel_rfl) (by kernel_rfl) HA_1 rfl ?_
    intro w_3 HA_3
    refine lm_al (x := x0) (d := some 13) (by kernel_rfl) rfl (by kernel_rfl) (by kernel_rfl) (al_move (by kernel_rfl)) ?_
    refine lm_al (x := x0) (d := some 14) (by kernel_rfl) rfl (by kernel_rfl) (by kernel_rfl) (al_move (by kernel_rfl)) ?_
    refine lm_p (d := some 15) (by kernel_rfl) rfl (by kernel_rfl) (by kernel_rfl) (p_nil (by kernel_rfl) H) (fun x15 H => ?_)
    refine lm_p (d := some 16) (by kernel_rfl) rfl (by kernel_rfl) (by kernel_rfl) (p_off Tryd.underlying64 rfl (fun w => ⟨_, Tryd.sizeOf3 w⟩) rfl (by kernel_rfl) H) (fun x16 H => ?_)
    refine lm_f (d := some 17) (by kernel_rfl) rfl (by kernel_rfl) (by kernel_rfl) (by kernel_rfl) (by kernel_rfl) (of_eq (y_ld Tryd.isAgg3 (by kernel_rfl) H)) (fun x17 H => ?_)
    refine lm_al (x := x1) (d := some 18) (by kernel_rfl) rfl (by kernel_rfl) (by kernel_rfl) (al_move (by kernel_rfl)) ?_
    refine lm_fr (b := ⟨#[x0, x1, undef, undef, x0, x5, x6, x7, x1, x9, undef, undef, undef, x0, x0, x15, x16, x17, x1, undef, undef, undef, undef, undef, undef, undef, undef], []⟩) (by kernel_rfl) ?_
    refine lm_al (x := x0) (d := some 19) (by kernel_rfl) rfl (by kernel_rfl) (by kernel_rfl) (al_move (by kernel_rfl)) ?_
    refine lm_p (d := some 20) (by kernel_rfl) rfl (by kernel_rfl) (by kernel_rfl) (p_nil (by kernel_rfl) H) (fun x20 H => ?_)
    refine lm_p (d := some 21) (by kernel_rfl) rfl (by kernel_rfl) (by kernel_rfl) (p_off Tryd.underlying64 rfl (fun w => ⟨_, Tryd.sizeOf3 w⟩) rfl (by kernel_rfl) H) (fun x21 H => ?_)
    refine lm_f (d := some 22) (by kernel_rfl) rfl (by kernel_rfl) (by kernel_rfl) (by kernel_rfl) (by kernel_rfl) (of_eq (y_ld Tryd.isAgg3 (by kernel_rfl) H)) (fun x22 H => ?_)
    refine lm_p (d := some 23) (by kernel_rfl) rfl (by kernel_rfl) (by kernel_rfl) (p_neg (by kernel_rfl) H) (fun x23 H => ?_)
    refine lm_p (d := some 24) (by kernel_rfl) rfl (by kernel_rfl) (by kernel_rfl) (p_max (by kernel_rfl) (by kernel_rfl) H) (fun x24 H => ?_)
    refine lm_fr (b := ⟨#[x0, x1, undef, undef, x0, x5, x6, x7, x1, x9, undef, undef, undef, x0, x0, x15, x16, x17, x1, x0, x20, x21, x22, x23, x24, undef, undef], []⟩) (by kernel_rfl) ?_
    refine lm_p (d := some 25) (by kernel_rfl) rfl (by kernel_rfl) (by kernel_rfl) (p_neg (by kernel_rfl) H) (fun x25 H => ?_)
    refine lm_d (d := some 26) (by kernel_rfl) rfl (by kernel_rfl) (by kernel_rfl) (by kernel_rfl) HA_3 (d_call (by kernel_rfl) (by kernel_rfl) H) (fun x26 h_3 w_4 H HA_4 => ?_)
    refine lm_nil ?_
    exact end0 (Tryd.results26) (by kernel_rfl) HA_4 H _ (.inl rfl)

end Go.Proofs.YtmhhjpfkipficaaDoor

end

section
/- The shallow reading of one function, and that the function does it. Written by a program. -/
set_option linter.unusedVariables false
namespace Go.Proofs.YtmhhjpfkipficaaDoor
open Go Go.HW

def screen_Screen_Back_S (x0 : Value) (h : Heap) (R : Value → Heap → Prop) : Prop :=
  screen_Screen_cur_c x0 h fun x4 h => 
  sNil x4 fun x6 =>
  sOff x6 2 fun x7 =>
  sSt h x7 (.bool false) fun h_1 => 
  sNil x4 fun x9 =>
  sOff x9 1 fun x10 =>
  sLd h_1 x10 fun x11 =>
  sNil x0 fun x13 =>
  sOff x13 19 fun x14 =>
  sLd h_1 x14 fun x15 =>
  sEq x11 x15 fun x16 =>
  sIf x16 (sNil x0 fun x19 =>
  sOff x19 19 fun x20 =>
  sLd h_1 x20 fun x21 =>
  screen_Screen_down_c x0 x21 (.int .i64 1) h_1 fun x22 h_2 => 
  R unit h_2) (sNil x4 fun x24 =>
  sOff x24 1 fun x25 =>
  sLd h_1 x25 fun x26 =>
  sGt x26 (.int .i64 0) fun x27 =>
  sIf x27 (sNil x4 fun x29 =>
  sOff x29 1 fun x30 =>
  sLd h_1 x30 fun x31 =>
  sSub .i64 x31 (.int .i64 1) fun x32 =>
  sNil x4 fun x33 =>
  sOff x33 1 fun x34 =>
  sSt h_1 x34 x32 fun h_3 => 
  R unit h_3) (R unit h_1))
set_option maxRecDepth 100000 in
theorem screen_Screen_Back_runs {x0 : Value} {h : Heap} {R : Value → Heap → Prop} (H : screen_Screen_Back_S x0 h R) : screen_Screen_Back_c x0 h R := by
  unfold screen_Screen_Back_S at H
  refine runs_of (b := ⟨#[x0, undef, undef, undef, undef, undef, undef, undef, undef, undef, undef, undef, undef, undef, undef, undef, undef, undef, undef, undef, undef, undef, undef, undef, undef, undef, undef, undef, undef, undef, undef, undef, undef, undef, undef], []⟩) Tryd.call40 Tryd.func40 rfl (by kernel_rfl) (fun w0 HA => ?_)
  refine wp_seq ?_
  refine lwp_list ?_
  refine ls_move (x := x0) (by kernel_rfl) (by kernel_rfl) ?_
  refine ls_d (d := some 4) (by kernel_rfl) (by kernel_rfl) HA (d_call (by kernel_rfl) (by kernel_rfl) H) (fun x4 h w H HA => ?_)
  refine ls_assign (x := x4) (by kernel_rfl) (by kernel_rfl) ?_
  refine ls_nil ?_
  refine then_normal ?_
  refine fr_eq (b := ⟨#[x0, undef, x4, x0, x4, undef, undef, undef, undef, undef, undef, undef, undef, undef, undef, undef, undef, undef, undef, undef, undef, undef, undef, undef, undef, undef, undef, undef, undef, undef, undef, undef, undef, undef, undef], []⟩) (by kernel_rfl) ?_
  refine wp_seq ?_
  refine lwp_list ?_
  refine ls_move (x := x4) (by kernel_rfl) (by kernel_rfl) ?_
  refine ls_p (d := some 6) (by kernel_rfl) (by kernel_rfl) (p_nil (by kernel_rfl) H) (fun x6 H => ?_)
  refine ls_p (d := some 7) (by kernel_rfl) (by kernel_rfl) (p_off Tryd.underlying38 rfl (fun w => ⟨_, Tryd.sizeOf4 w⟩) rfl (by kernel_rfl) H) (fun x7 H => ?_)
  refine ls_d (d := none) (by kernel_rfl) (by kernel_rfl) HA (d_st Tryd.sizeOf4 (by kernel_rfl) (by kernel_rfl) H) (fun _ h_1 w_1 H HA_1 => ?_)
  refine ls_nil ?_
  refine then_normal ?_
  refine fr_eq (b := ⟨#[x0, undef, x4, x0, x4, x4, x6, x7, undef, undef, undef, undef, undef, undef, undef, undef, undef, undef, undef, undef, undef, undef, undef, undef, undef, undef, undef, undef, undef, undef, undef, undef, undef, undef, undef], []⟩) (by kernel_rfl) ?_
  refine wp_seq ?_
  refine lwp_qt (by kernel_rfl) (by kernel_rfl) HA_1 ?_
  refine lq_move (x := x4) (by kernel_rfl) (by kernel_rfl) ?_
  refine lq_p (d := some 9) (by kernel_rfl) (by kernel_rfl) (p_nil (by kernel_rfl) H) (fun x9 H => ?_)
  refine lq_p (d := some 10) (by kernel_rfl) (by kernel_rfl) (p_off Tryd.underlying38 rfl (fun w => ⟨_, Tryd.sizeOf3 w⟩) rfl (by kernel_rfl) H) (fun x10 H => ?_)
  refine lq_y (d := some 11) (by kernel_rfl) (by kernel_rfl) HA_1 (y_ld Tryd.isAgg3 (by kernel_rfl) H) (fun x11 H => ?_)
  refine lq_move (x := x0) (by kernel_rfl) (by kernel_rfl) ?_
  refine lq_p (d := some 13) (by kernel_rfl) (by kernel_rfl) (p_nil (by kernel_rfl) H) (fun x13 H => ?_)
  refine lq_fr (b := ⟨#[x0, undef, x4, x0, x4, x4, x6, x7, x4, x9, x10, x11, x0, x13, undef, undef, undef, undef, undef, undef, undef, undef, undef, undef, undef, undef, undef, undef, undef, undef, undef, undef, undef, undef, undef], []⟩) (by kernel_rfl) ?_
  refine lq_p (d := some 14) (by kernel_rfl) (by kernel_rfl) (p_off Tryd.underlying64 rfl (fun w => ⟨_, Tryd.sizeOf3 w⟩) rfl (by kernel_rfl) H) (fun x14 H => ?_)
  refine lq_y (d := some 15) (by kernel_rfl) (by kernel_rfl) HA_1 (y_ld Tryd.isAgg3 (by kernel_rfl) H) (fun x15 H => ?_)
  refine lq_p (d := some 16) (by kernel_rfl) (by kernel_rfl) (p_sEq (by kernel_rfl) (by kernel_rfl) H) (fun x16 H => ?_)
  refine lq_nil ?_
  intro w_2 HA_2
  refine then_normal ?_
  refine fr_eq (b := ⟨#[x0, undef, x4, x0, x4, x4, x6, x7, x4, x9, x10, x11, x0, x13, x14, x15, x16, undef, undef, undef, undef, undef, undef, undef, undef, undef, undef, undef, undef, undef, undef, undef, undef, undef, undef], []⟩) (by kernel_rfl) ?_
  refine wp_if rfl H (fun H => ?_) (fun H => ?_)
  · refine lwp_list ?_
    refine ls_move (x := x0) (by kernel_rfl) (by kernel_rfl) ?_
    refine ls_move (x := x0) (by kernel_rfl) (by kernel_rfl) ?_
    refine ls_p (d := some 19) (by kernel_rfl) (by kernel_rfl) (p_nil (by kernel_rfl) H) (fun x19 H => ?_)
    refine ls_p (d := some 20) (by kernel_rfl) (by kernel_rfl) (p_off Tryd.underlying64 rfl (fun w => ⟨_, Tryd.sizeOf3 w⟩) rfl (by kernel_rfl) H) (fun x20 H => ?_)
    refine ls_y (d := some 21) (by kernel_rfl) (by kernel_rfl) HA_2 (y_ld Tryd.isAgg3 (by kernel_rfl) H) (fun x21 H => ?_)
    refine ls_d (d := some 22) (by kernel_rfl) (by kernel_rfl) HA_2 (d_call (by kernel_rfl) (by kernel_rfl) H) (fun x22 h_2 w_3 H HA_3 => ?_)
    refine ls_nil ?_
    exact end0 (Tryd.results40) (by kernel_rfl) HA_3 H _ (.inl rfl)
  · refine wp_seq ?_
    refine lwp_list ?_
    refine ls_move (x := x4) (by kernel_rfl) (by kernel_rfl) ?_
    refine ls_p (d := some 24) (by kernel_rfl) (by kernel_rfl) (p_nil (by kernel_rfl) H) (fun x24 H => ?_)
    refine ls_p (d := some 25) (by kernel_rfl) (by kernel_rfl) (p_off Tryd.underlying38 rfl (fun w => ⟨_, Tryd.sizeOf3 w⟩) rfl (by kernel_rfl) H) (fun x25 H => ?_)
    refine ls_y (d := some 26) (by kernel_rfl) (by kernel_rfl) HA_2 (y_ld Tryd.isAgg3 (by kernel_rfl) H) (fun x26 H => ?_)
    refine ls_p (d := some 27) (by kernel_rfl) (by kernel_rfl) (p_sGt (by kernel_rfl) (by kernel_rfl) H) (fun x27 H => ?_)
    refine ls_nil ?_
    refine then_normal ?_
    refine fr_eq (b := ⟨#[x0, undef, x4, x0, x4, x4, x6, x7, x4, x9, x10, x11, x0, x13, x14, x15, x16, undef, undef, undef, undef, undef, undef, x4, x24, x25, x26, x27, undef, undef, undef, undef, undef, undef, undef], []⟩) (by kernel_rfl) ?_
    refine wp_if rfl H (fun H => ?_) (fun H => ?_)
    · refine lwp_list ?_
      refine ls_move (x := x4) (by kernel_rfl) (by kernel_rfl) ?_
      refine ls_p (d := some 29) (by kernel_rfl) (by kernel_rfl) (p_nil (by kernel_rfl) H) (fun x29 H => ?_)
      refine ls_p (d := some 30) (by kernel_rfl) (by kernel_rfl) (p_off Tryd.underlying38 rfl (fun w => ⟨_, Tryd.sizeOf3 w⟩) rfl (by kernel_rfl) H) (fun x30 H => ?_)
      refine ls_y (d := some 31) (by kernel_rfl) (by kernel_rfl) HA_2 (y_ld Tryd.isAgg3 (by kernel_rfl) H) (fun x31 H => ?_)
      refine ls_p (d := some 32) (by kernel_rfl) (by kernel_rfl) (p_sub (by kernel_rfl) (by kernel_rfl) H) (fun x32 H => ?_)
      refine ls_p (d := some 33) (by kernel_rfl) (by kernel_rfl) (p_nil (by kernel_rfl) H) (fun x33 H => ?_)
      refine ls_fr (b := ⟨#[x0, undef, x4, x0, x4, x4, x6, x7, x4, x9, x10, x11, x0, x13, x14, x15, x16, undef, undef, undef, undef, undef, undef, x4, x24, x25, x26, x27, x4, x29, x30, x31, x32, x33, undef], []⟩) (by kernel_rfl) ?_
      refine ls_p (d := some 34) (by kernel_rfl) (by kernel_rfl) (p_off Tryd.underlying38 rfl (fun w => ⟨_, Tryd.sizeOf3 w⟩) rfl (by kernel_rfl) H) (fun x34 H => ?_)
      refine ls_d (d := none) (by kernel_rfl) (by kernel_rfl) HA_2 (d_st Tryd.sizeOf3 (by kernel_rfl) (by kernel_rfl) H) (fun _ h_3 w_4 H HA_4 => ?_)
      refine ls_nil ?_
      exact end0 (Tryd.results40) (by kernel_rfl) HA_4 H _ (.inl rfl)
    · refine wp_skip ?_
      exact end0 (Tryd.results40) (by kernel_rfl) HA_2 H _ (.inl rfl)

end Go.Proofs.YtmhhjpfkipficaaDoor

end

section
/- The shallow reading of one function, and that the function does it. Written by a program. -/
set_option linter.unusedVariables false
namespace Go.Proofs.YtmhhjpfkipficaaDoor
open Go Go.HW

def screen_Screen_SetPen_S (x0 x1 : Value) (h : Heap) (R : Value → Heap → Prop) : Prop :=
  sBox h x1 29 fun x3 h => 
  sLdN h x3 3 fun x5 =>
  sNil x0 fun x6 =>
  sOff x6 3 fun x7 =>
  sOff x7 3 fun x8 =>
  sStN h x8 x5 3 fun h_1 => 
  R unit h_1
set_option maxRecDepth 100000 in
theorem screen_Screen_SetPen_runs {x0 x1 : Value} {h : Heap} {R : Value → Heap → Prop} (H : screen_Screen_SetPen_S x0 x1 h R) : screen_Screen_SetPen_c x0 x1 h R := by
  unfold screen_Screen_SetPen_S at H
  refine runs_of (b := ⟨#[x0, x1, undef, undef, undef, undef, undef, undef, undef], []⟩) Tryd.call22 Tryd.func22 rfl (by kernel_rfl) (fun w0 HA => ?_)
  refine wp_seq ?_
  refine lwp_list ?_
  refine ls_d (d := some 3) (by kernel_rfl) (by kernel_rfl) HA (d_box (by kernel_rfl) H) (fun x3 h w H HA => ?_)
  refine ls_nil ?_
  refine then_normal ?_
  refine fr_eq (b := ⟨#[x0, x1, undef, x3, undef, undef, undef, undef, undef], []⟩) (by kernel_rfl) ?_
  refine lwp_list ?_
  refine ls_move (x := x0) (by kernel_rfl) (by kernel_rfl) ?_
  refine ls_y (d := some 5) (by kernel_rfl) (by kernel_rfl) HA (y_ldn Tryd.isAgg29 Tryd.sizeOf29 (by kernel_rfl) H) (fun x5 H => ?_)
  refine ls_p (d := some 6) (by kernel_rfl) (by kernel_rfl) (p_nil (by kernel_rfl) H) (fun x6 H => ?_)
  refine ls_p (d := some 7) (by kernel_rfl) (by kernel_rfl) (p_off Tryd.underlying64 rfl (fun w => ⟨_, Tryd.sizeOf61 w⟩) rfl (by kernel_rfl) H) (fun x7 H => ?_)
  refine ls_p (d := some 8) (by kernel_rfl) (by kernel_rfl) (p_off Tryd.underlying61 rfl (fun w => ⟨_, Tryd.sizeOf29 w⟩) rfl (by kernel_rfl) H) (fun x8 H => ?_)
  refine ls_d (d := none) (by kernel_rfl) (by kernel_rfl) HA (d_stn Tryd.sizeOf29 (by kernel_rfl) (by kernel_rfl) H) (fun _ h_1 w_1 H HA_1 => ?_)
  refine ls_nil ?_
  exact end0 (Tryd.results22) (by kernel_rfl) HA_1 H _ (.inl rfl)

end Go.Proofs.YtmhhjpfkipficaaDoor

end

section
/- The shallow reading of one function, and that the function does it. Written by a program. -/
set_option linter.unusedVariables false
namespace Go.Proofs.YtmhhjpfkipficaaDoor
open Go Go.HW

def screen_Screen_Pen_S (x0 : Value) (h : Heap) (R : Value → Heap → Prop) : Prop :=
  sNew h #[.int .i64 0, .int .i64 0, .int .i64 0] 29 fun x2 h => 
  sNil x0 fun x4 =>
  sOff x4 3 fun x5 =>
  sOff x5 3 fun x6 =>
  sLdN h x6 3 fun x7 =>
  sStN h x2 x7 3 fun h_1 => 
  sLdN h_1 x2 3 fun r2 =>
  R r2 h_1
set_option maxRecDepth 100000 in
theorem screen_Screen_Pen_runs {x0 : Value} {h : Heap} {R : Value → Heap → Prop} (H : screen_Screen_Pen_S x0 h R) : screen_Screen_Pen_c x0 h R := by
  unfold screen_Screen_Pen_S at H
  refine runs_of (b := ⟨#[x0, undef, undef, undef, undef, undef, undef, undef], []⟩) Tryd.call21 Tryd.func21 rfl (by kernel_rfl) (fun w0 HA => ?_)
  refine wp_seq ?_
  refine lwp_list ?_
  refine ls_d (d := some 2) (by kernel_rfl) (by kernel_rfl) HA (d_alloc Tryd.zeroValue29 H) (fun x2 h w H HA => ?_)
  refine ls_nil ?_
  refine then_normal ?_
  refine fr_eq (b := ⟨#[x0, undef, x2, undef, undef, undef, undef, undef], []⟩) (by kernel_rfl) ?_
  refine wp_seq ?_
  refine lwp_list ?_
  refine ls_move (x := x0) (by kernel_rfl) (by kernel_rfl) ?_
  refine ls_p (d := some 4) (by kernel_rfl) (by kernel_rfl) (p_nil (by kernel_rfl) H) (fun x4 H => ?_)
  refine ls_p (d := some 5) (by kernel_rfl) (by kernel_rfl) (p_off Tryd.underlying64 rfl (fun w => ⟨_, Tryd.sizeOf61 w⟩) rfl (by kernel_rfl) H) (fun x5 H => ?_)
  refine ls_p (d := some 6) (by kernel_rfl) (by kernel_rfl) (p_off Tryd.underlying61 rfl (fun w => ⟨_, Tryd.sizeOf29 w⟩) rfl (by kernel_rfl) H) (fun x6 H => ?_)
  refine ls_y (d := some 7) (by kernel_rfl) (by kernel_rfl) HA (y_ldn Tryd.isAgg29 Tryd.sizeOf29 (by kernel_rfl) H) (fun x7 H => ?_)
  refine ls_d (d := none) (by kernel_rfl) (by kernel_rfl) HA (d_stn Tryd.sizeOf29 (by kernel_rfl) (by kernel_rfl) H) (fun _ h_1 w_1 H HA_1 => ?_)
  refine ls_nil ?_
  refine then_normal ?_
  refine fr_eq (b := ⟨#[x0, undef, x2, x0, x4, x5, x6, x7], []⟩) (by kernel_rfl) ?_
  refine wp_ret ?_
  obtain ⟨r2, hr2, H⟩ := ld_n Tryd.isAgg29 Tryd.sizeOf29 H
  exact endR (vs := [r2]) (Tryd.results21) (by kernel_rfl) ⟨⟨_, (by kernel_rfl), hr2⟩, trivial⟩ HA_1 H _ (.inr rfl)

end Go.Proofs.YtmhhjpfkipficaaDoor

end

section
/- The shallow reading of one function, and that the function does it. Written by a program. -/
set_option linter.unusedVariables false
namespace Go.Proofs.YtmhhjpfkipficaaDoor
open Go Go.HW

def screen_Screen_Size_S (x0 : Value) (h : Heap) (R : Value → Heap → Prop) : Prop :=
  sNil x0 fun x5 =>
  sOff x5 1 fun x6 =>
  sLd h x6 fun x7 =>
  sNil x0 fun x9 =>
  sOff x9 2 fun x10 =>
  sLd h x10 fun x11 =>
  R (.tuple #[x7, x11]) h
set_option maxRecDepth 100000 in
theorem screen_Screen_Size_runs {x0 : Value} {h : Heap} {R : Value → Heap → Prop} (H : screen_Screen_Size_S x0 h R) : screen_Screen_Size_c x0 h R := by
  unfold screen_Screen_Size_S at H
  refine runs_of (b := ⟨#[x0, undef, undef, undef, undef, undef, undef, undef, undef, undef, undef, undef], []⟩) Tryd.call19 Tryd.func19 rfl (by kernel_rfl) (fun w0 HA => ?_)
  refine wp_seq ?_
  refine lwp_list ?_
  refine ls_assign (x := (.int .i64 0)) (by kernel_rfl) (by kernel_rfl) ?_
  refine ls_assign (x := (.int .i64 0)) (by kernel_rfl) (by kernel_rfl) ?_
  refine ls_nil ?_
  refine then_normal ?_
  refine fr_eq (b := ⟨#[x0, undef, (.int .i64 0), (.int .i64 0), undef, undef, undef, undef, undef, undef, undef, undef], []⟩) (by kernel_rfl) ?_
  refine wp_seq ?_
  refine lwp_qt (by kernel_rfl) (by kernel_rfl) HA ?_
  refine lq_move (x := x0) (by kernel_rfl) (by kernel_rfl) ?_
  refine lq_p (d := some 5) (by kernel_rfl) (by kernel_rfl) (p_nil (by kernel_rfl) H) (fun x5 H => ?_)
  refine lq_p (d := some 6) (by kernel_rfl) (by kernel_rfl) (p_off Tryd.underlying64 rfl (fun w => ⟨_, Tryd.sizeOf3 w⟩) rfl (by kernel_rfl) H) (fun x6 H => ?_)
  refine lq_y (d := some 7) (by kernel_rfl) (by kernel_rfl) HA (y_ld Tryd.isAgg3 (by kernel_rfl) H) (fun x7 H => ?_)
  refine lq_move (x := x0) (by kernel_rfl) (by kernel_rfl) ?_
  refine lq_p (d := some 9) (by kernel_rfl) (by kernel_rfl) (p_nil (by kernel_rfl) H) (fun x9 H => ?_)
  refine lq_p (d := some 10) (by kernel_rfl) (by kernel_rfl) (p_off Tryd.underlying64 rfl (fun w => ⟨_, Tryd.sizeOf3 w⟩) rfl (by kernel_rfl) H) (fun x10 H => ?_)
  refine lq_y (d := some 11) (by kernel_rfl) (by kernel_rfl) HA (y_ld Tryd.isAgg3 (by kernel_rfl) H) (fun x11 H => ?_)
  refine lq_assign (x := x7) (by kernel_rfl) (by kernel_rfl) ?_
  refine lq_assign (x := x11) (by kernel_rfl) (by kernel_rfl) ?_
  refine lq_nil ?_
  intro w HA
  refine then_normal ?_
  refine fr_eq (b := ⟨#[x0, undef, x7, x11, x0, x5, x6, x7, x0, x9, x10, x11], []⟩) (by kernel_rfl) ?_
  refine wp_ret ?_
  exact end2 (Tryd.results19) (by kernel_rfl) (by kernel_rfl) (by kernel_rfl) HA H _ (.inr rfl)

end Go.Proofs.YtmhhjpfkipficaaDoor

end

section
/- The shallow reading of one function, and that the function does it. Written by a program. -/
set_option linter.unusedVariables false
namespace Go.Proofs.YtmhhjpfkipficaaDoor
open Go Go.HW

def screen_Screen_Grid_S (x0 : Value) (h : Heap) (R : Value → Heap → Prop) : Prop :=
  sNil x0 fun x4 =>
  sOff x4 0 fun x5 =>
  sLd h x5 fun x6 =>
  grid_Grid_Clone_c x6 h fun x7 h => 
  R x7 h
set_option maxRecDepth 100000 in
theorem screen_Screen_Grid_runs {x0 : Value} {h : Heap} {R : Value → Heap → Prop} (H : screen_Screen_Grid_S x0 h R) : screen_Screen_Grid_c x0 h R := by
  unfold screen_Screen_Grid_S at H
  refine runs_of (b := ⟨#[x0, undef, undef, undef, undef, undef, undef, undef], []⟩) Tryd.call23 Tryd.func23 rfl (by kernel_rfl) (fun w0 HA => ?_)
  refine wp_seq ?_
  refine lwp_list ?_
  refine ls_assign (x := (.pointer none)) (by kernel_rfl) (by kernel_rfl) ?_
  refine ls_nil ?_
  refine then_normal ?_
  refine fr_eq (b := ⟨#[x0, undef, (.pointer none), undef, undef, undef, undef, undef], []⟩) (by kernel_rfl) ?_
  refine wp_seq ?_
  refine lwp_list ?_
  refine ls_move (x := x0) (by kernel_rfl) (by kernel_rfl) ?_
  refine ls_p (d := some 4) (by kernel_rfl) (by kernel_rfl) (p_nil (by kernel_rfl) H) (fun x4 H => ?_)
  refine ls_p (d := some 5) (by kernel_rfl) (by kernel_rfl) (p_off Tryd.underlying64 rfl (fun w => ⟨_, Tryd.sizeOf54 w⟩) rfl (by kernel_rfl) H) (fun x5 H => ?_)
  refine ls_y (d := some 6) (by kernel_rfl) (by kernel_rfl) HA (y_ld Tryd.isAgg54 (by kernel_rfl) H) (fun x6 H => ?_)
  refine ls_d (d := some 7) (by kernel_rfl) (by kernel_rfl) HA (d_call (by kernel_rfl) (by kernel_rfl) H) (fun x7 h w H HA => ?_)
  refine ls_assign (x := x7) (by kernel_rfl) (by kernel_rfl) ?_
  refine ls_nil ?_
  refine then_normal ?_
  refine fr_eq (b := ⟨#[x0, undef, x7, x0, x4, x5, x6, x7], []⟩) (by kernel_rfl) ?_
  refine wp_ret ?_
  exact end1 (Tryd.results23) (by kernel_rfl) (by kernel_rfl) HA H _ (.inr rfl)

end Go.Proofs.YtmhhjpfkipficaaDoor

end

section
/- Screens: scrolling, lines, moves, what is told. -/
set_option linter.unusedSimpArgs false
set_option linter.unusedVariables false
namespace Go.Proofs.YtmhhjpfkipficaaDoor
open Go Go.HW

/-- What is right of a screen. -/
structure OkS (m : Sc) : Prop where
  w : 1 ≤ m.w ∧ m.w ≤ 512
  g : 1 ≤ m.g ∧ m.g ≤ 512
  x : 0 ≤ m.x ∧ m.x < m.w
  y : 0 ≤ m.y ∧ m.y < m.g
  t : 0 ≤ m.top ∧ m.top ≤ m.bot ∧ m.bot < m.g
  late : m.late = true → m.x = m.w - 1
structure Rds (k : Nat) (m : Sc) (h : Heap) : Prop where
  r1 : ∀ {K : Value → Prop}, sLd h (ptr k 1) K = K (.int .i64 m.w)
  r2 : ∀ {K : Value → Prop}, sLd h (ptr k 2) K = K (.int .i64 m.g)
  r3 : ∀ {K : Value → Prop}, sLd h (ptr k 3) K = K (.int .i64 m.x)
  r4 : ∀ {K : Value → Prop}, sLd h (ptr k 4) K = K (.int .i64 m.y)
  r5 : ∀ {K : Value → Prop}, sLd h (ptr k 5) K = K (.bool m.late)
  r9 : ∀ {K : Value → Prop}, sLd h (ptr k 9) K = K (.bool m.org)
  r17 : ∀ {K : Value → Prop}, sLd h (ptr k 17) K = K (.bool m.wrap)
  r18 : ∀ {K : Value → Prop}, sLd h (ptr k 18) K = K (.bool m.ins)
  r19 : ∀ {K : Value → Prop}, sLd h (ptr k 19) K = K (.int .i64 m.top)
  r20 : ∀ {K : Value → Prop}, sLd h (ptr k 20) K = K (.int .i64 m.bot)
def Hk (k : Nat) (m : Sc) (kg : Nat) (ov : Value) : Heap → Prop := fun h' => h'.has k (scL m kg ov).toArray 64
structure Rdc (k : Nat) (m : Sc) (kg : Nat) (ov : Value) : Prop where
  r0 : ∀ {K : Value → Prop}, sLdC (Hk k m kg ov) (ptr k 0) K = K (ptr kg 0)
  r1 : ∀ {K : Value → Prop}, sLdC (Hk k m kg ov) (ptr k 1) K = K (.int .i64 m.w)
  r2 : ∀ {K : Value → Prop}, sLdC (Hk k m kg ov) (ptr k 2) K = K (.int .i64 m.g)
  r3 : ∀ {K : Value → Prop}, sLdC (Hk k m kg ov) (ptr k 3) K = K (.int .i64 m.x)
  r4 : ∀ {K : Value → Prop}, sLdC (Hk k m kg ov) (ptr k 4) K = K (.int .i64 m.y)
  r20 : ∀ {K : Value → Prop}, sLdC (Hk k m kg ov) (ptr k 20) K = K (.int .i64 m.bot)
def downF (C : Cel) (w g top bot n : Int) (bl : Ce) : Cel := fun x y => if inG w g x y = true ∧ top ≤ y ∧ y ≤ bot then (if top + n ≤ y then C x (y - n) else bl) else C x y
/-- So many rows go up, those of the screen's top go off. -/
def upN (m : Sc) (n : Int) : Int := mnI n (m.bot - m.top + 1)
def upC (m : Sc) (C : Cel) (n : Int) : Cel := if upN m n < 1 then C else upF C m.w m.g m.top m.bot (upN m n) m.bl
def upO (m : Sc) (C : Cel) (off : List (List Ce)) (n : Int) : List (List Ce) := if m.top = 0 then off ++ (List.range (upN m n).toNat).map (fun (y : Nat) => rowL C m.w y) else off
def downC (m : Sc) (C : Cel) (top n : Int) : Cel := if mnI n (m.bot - top + 1) < 1 then C else downF C m.w m.g top m.bot (mnI n (m.bot - top + 1)) m.bl

section
variable {h0 h : Heap} {F : List HP} {R : Value → Heap → Prop} {k kg : Nat} {m : Sc} {C : Cel} {off : List (List Ce)}
theorem rd (z : HW.Sep h0 (Scr k m C off :: F) h) : Rds k m h :=
  ⟨mld z (fun _ _ => rfl), mld z (fun _ _ => rfl), mld z (fun _ _ => rfl), mld z (fun _ _ => rfl), mld z (fun _ _ => rfl), mld z (fun _ _ => rfl), mld z (fun _ _ => rfl), mld z (fun _ _ => rfl), mld z (fun _ _ => rfl), mld z (fun _ _ => rfl)⟩
theorem rdc_at {o : Nat} {u : Value} {ov : Value} (b : Hk k m kg ov h) {K : Value → Prop} (hv : (scL m kg ov)[o]? = some u) : sLdC (Hk k m kg ov) (ptr k o) K = K u :=
  ldc_at (C := Hk k m kg ov) (h0 := h) b (fun h' e => by unfold Hk at e; rw [e.at, List.getElem?_toArray, hv])
theorem rdc {ov : Value} (b : Hk k m kg ov h) : Rdc k m kg ov :=
  ⟨rdc_at b rfl, rdc_at b rfl, rdc_at b rfl, rdc_at b rfl, rdc_at b rfl, rdc_at b rfl⟩
theorem down_eq {w g top bot n : Int} {bl : Ce} (hw : 1 ≤ w ∧ w ≤ 512) (hg : 1 ≤ g ∧ g ≤ 512) (ht : 0 ≤ top ∧ bot < g) (hn : 1 ≤ n ∧ n ≤ bot - top + 1) (ho : ∀ x y, ¬ inG w g x y = true → C x y = ce0) : fillF (copyF C w g ⟨0, top, w, bot - top + 1 - n⟩ 0 (top + n)) w g ⟨0, top, w, n⟩ bl = downF C w g top bot n bl := by
  funext x y
  have hr : (⟨0, top, w, n⟩ : Rc).right = true := (Rc.right_iff _).2 (by unfold Rc.Ok; simp only; omega)
  unfold fillF copyF downF Rc.has
  rw [hr]
  simp only [true_and, Int.zero_add, Int.add_zero, Int.sub_zero]
  by_cases hi : inG w g x y = true
  · have h2 := inG_iff.1 hi
    by_cases hy : top ≤ y ∧ y ≤ bot
    · by_cases hb : top + n ≤ y
      · rw [if_neg (by omega), if_pos (by omega), if_pos ⟨hi, hy⟩, if_pos hb]
        congr 1; omega
      · rw [if_pos ⟨by omega, hi⟩, if_pos ⟨hi, hy⟩, if_neg hb]
    · rw [if_neg (by omega), if_neg (by omega), if_neg (fun h => hy h.2)]
  · rw [if_neg (fun h => hi h.2)]
    rw [if_neg (show ¬(inG w g x y = true ∧ top ≤ y ∧ y ≤ bot) from fun h => hi h.1)]
    split
    · rename_i hh
      exact (hi (inG_iff.2 ⟨by omega, by omega⟩)).elim
    · rfl
theorem down_spec {top n : Int} (z : HW.Sep h0 (Scr k m C off :: F) h) (ht : 0 ≤ top ∧ top ≤ m.bot ∧ m.bot < m.g) (H : ∀ h', HW.Sep h0 (Scr k m (downC m C top n) off :: F) h' → R unit h') : screen_Screen_down_c (ptr k 0) (.int .i64 top) (.int .i64 n) h R := by
  apply screen_Screen_down_runs
  unfold screen_Screen_down_S
  unfold downC at H
  have sz := Ssz z
  have ho := fun x y => Sout z (x := x) (y := y)
  obtain ⟨kg, ov, rs, e, es, so⟩ := Sopen z
  have b := so.has
  have f20 : ∀ {K : Value → Prop}, sLd h (ptr k 20) K = K (.int .i64 m.bot) := ldL b rfl
  have f0 : ∀ {K : Value → Prop}, sLd h (ptr k 0) K = K (ptr kg 0) := ldL b rfl
  have f1 : ∀ {K : Value → Prop}, sLd h (ptr k 1) K = K (.int .i64 m.w) := ldL b rfl
  simp only [ev_nil, ev_off, Nat.zero_add, Nat.add_zero, f20, f0, f1, ev_sub]
  rw [wrap_i64 (by omega) (by omega), ev_add, wrap_i64 (by omega) (by omega), ev_min]
  rw [show (if m.bot - top + 1 < n then m.bot - top + 1 else n) = mnI n (m.bot - top + 1) from rfl]
  have hmn : mnI n (m.bot - top + 1) ≤ m.bot - top + 1 := by unfold mnI; split <;> omega
  generalize mnI n (m.bot - top + 1) = q at H hmn ⊢
  rw [ev_lt, ev_if]
  by_cases hq : q < 1
  · rw [if_pos hq] at H
    rw [if_pos (decide_eq_true hq)]
    exact H h (Sshut e es so)
  rw [if_neg hq] at H
  rw [if_neg (by simpa using hq)]
  simp (disch := omega) only [ev_add, ev_sub, wrap_i64]
  refine build_intro (cs := (⟨0, top, m.w, m.bot - top + 1 - q⟩ : Rc).c) ⟨rfl, Nat.le_of_ble_eq_true rfl, rfl, Nat.le_of_ble_eq_true rfl, rfl, Nat.le_of_ble_eq_true rfl, rfl⟩ ?_
  refine gcopy_spec (r := ⟨0, top, m.w, m.bot - top + 1 - q⟩) so.b1 (by simp only; omega) (by simp only; omega) (by simp only; omega) (fun n1 h1 s1 => ?_)
  have b1 : h1.has k (scL m kg ov).toArray 64 := s1.b1.has
  refine ⟨Hk k m kg ov, b1, ?_⟩
  rw [(rdc b1).r0, (rdc b1).r1]
  refine build_intro (cs := (⟨0, top, m.w, q⟩ : Rc).c) ⟨rfl, Nat.le_of_ble_eq_true rfl, rfl, Nat.le_of_ble_eq_true rfl, rfl, Nat.le_of_ble_eq_true rfl, rfl⟩ ?_
  refine blank_b b1 (fun h2 e2 => ⟨e2.has b1, ?_⟩)
  refine gfill_spec (r := ⟨0, top, m.w, q⟩) (s1.ext' e2) (fun n2 h3 s3 => H h3 (Sshut (kg := kg) (ov := ov) e es ?_))
  rw [down_eq sz.1 sz.2 (by omega) (by omega) ho] at s3
  exact s3.b1
theorem scrollUp_spec {n : Int} (z : HW.Sep h0 (Scr k m C off :: F) h) (ht : 0 ≤ m.top ∧ m.top ≤ m.bot ∧ m.bot < m.g) (hb : off.length ≤ 1000000) (H : ∀ h', HW.Sep h0 (Scr k m (upC m C n) (upO m C off n) :: F) h' → R unit h') : screen_Screen_scrollUp_c (ptr k 0) (.int .i64 n) h R := by
  apply screen_Screen_scrollUp_runs
  unfold screen_Screen_scrollUp_S
  have sz := Ssz z
  have r := rd z
  unfold upC upO at H
  simp only [ev_nil, ev_off, Nat.zero_add, Nat.add_zero, r.r20, r.r19, ev_sub]
  rw [wrap_i64 (by omega) (by omega), ev_add, wrap_i64 (by omega) (by omega), ev_min]
  rw [show (if m.bot - m.top + 1 < n then m.bot - m.top + 1 else n) = upN m n from rfl]
  have hmn : upN m n ≤ m.bot - m.top + 1 := by unfold upN mnI; split <;> omega
  have h2 : mnI (upN m n) (m.bot - m.top + 1) = upN m n := by unfold mnI; rw [if_neg (by omega)]
  have hup : ∀ {off' : List (List Ce)} {h1 : Heap}, off' = (if m.top = 0 then off ++ (List.range (upN m n).toNat).map (fun (y : Nat) => rowL C m.w y) else off) → HW.Sep h0 (Scr k m C off' :: F) h1 → screen_Screen_scrollUp_j1 R (ptr k 0) (.int .i64 (upN m n)) h1 := by
    intro off' h1 eo s1
    unfold screen_Screen_scrollUp_j1
    simp only [ev_nil, ev_off, Nat.zero_add, Nat.add_zero, (rd s1).r19]
    refine up_spec s1 ht (fun h' s' => H h' ?_)
    rw [h2] at s'
    rw [← eo]; exact s'
  generalize upN m n = q at H hmn hup ⊢
  rw [ev_eq, ev_if]
  by_cases h3 : m.top = 0
  · rw [if_pos (by simpa using h3)]
    refine ⟨fun t h' => ∃ i : Nat, ((i : Int) ≤ q ∨ i = 0) ∧ t = .int .i64 i ∧ HW.Sep h0 (Scr k m C (off ++ (List.range i).map (fun (y : Nat) => rowL C m.w y)) :: F) h', fun t _ => match t with | .int _ i => (q - i).toNat | _ => 0, ⟨0, .inr rfl, rfl, by simpa using z⟩, ?_⟩
    rintro _ h1 ⟨i, hi, rfl, s1⟩
    simp only []
    unfold screen_Screen_scrollUp_l2
    rw [ev_lt, ev_if]
    by_cases hlt : (i : Int) < q
    · rw [if_pos (decide_eq_true hlt)]
      obtain ⟨kg, ov, rs, e, es, so⟩ := Sopen s1
      have hrl : rs.length = off.length + i := by have := congrArg List.length e; simpa using this
      refine ⟨Hk k m kg ov, so.has, ?_⟩
      have f0 : ∀ {K : Value → Prop}, sLd h1 (ptr k 0) K = K (ptr kg 0) := ldL so.has rfl
      have f533 : ∀ {K : Value → Prop}, sLdC (Hk k m kg ov) (ptr k 533) K = K ov := rdc_at so.has (by
        have hs : (scL m kg ov).length = 534 := by rw [sc_len, es]
        unfold scL
        rw [List.getElem?_append_right (by simp [scH]), List.getElem?_append_right (by simp [scH, es])]
        simp [scH, es])
      simp only [ev_nil, ev_off, Nat.zero_add, Nat.add_zero, f0, f533]
      refine grow_spec so.b1 (by omega) (fun v' h2 s2 => ⟨s2.b2.has, ?_⟩)
      have cv : Cell1 v' := s2.cell
      obtain ⟨va, vn, vm, rfl, _⟩ := s2.seq
      refine s2.slit (enc := encCV) (sz := 1) encCV_len [⟨.slice va vn vm, cv⟩] rfl ⟨rfl, Nat.le_of_ble_eq_true rfl, rfl⟩ (fun lv h3 _ s3 => ⟨s3.b3.has, ?_⟩)
      refine s3.b4.app (enc := encCV) (sz := 1) rfl (by decide) encCV_len encCV_cell s3.seq (by simp only [List.length_map, List.length_cons, List.length_nil]; omega) (by decide) (fun ov' h4 co s4 => ?_)
      have s4b : HW.Sep h0 (Blk k (scL m kg ov).toArray 64 :: Sl encCV 1 ov' (rs.map (·.1) ++ [⟨.slice va vn vm, cv⟩]) :: Sl encCV 1 lv [⟨.slice va vn vm, cv⟩] :: Sl encCe 4 (.slice va vn vm) (rowL C m.w i) :: Gc kg m.w m.g C :: rowsP rs :: F) h4 := s4.b4
      refine stL s4b (by rw [sc_len]; omega) co (fun h5 s5 => ?_)
      rw [ev_add, wrap_i64 (by omega) (by omega)]
      refine ⟨⟨i + 1, .inl (by omega), by rw [Int.natCast_add]; rfl, ?_⟩, by simp only; omega⟩
      have e533 : (scL m kg ov).set 533 ov' = scL m kg ov' := by
        unfold scL
        rw [List.set_append_right _ _ (by simp [scH]), List.set_append_right _ _ (by simp [scH, es])]
        simp [scH, es]
      rw [e533] at s5
      have s6 : HW.Sep h0 (rowsP rs :: Sl encCe 4 (.slice va vn vm) (rowL C m.w i) :: Blk k (scL m kg ov').toArray 64 :: Sl encCV 1 ov' (rs.map (·.1) ++ [⟨.slice va vn vm, cv⟩]) :: Gc kg m.w m.g C :: F) h5 := selF (L := [_, _, _, _, _, _]) s5 [5, 3, 0, 1, 4, 2] rfl (by decide) |>.perm (.cons _ (.cons _ (.cons _ (.cons _ (.cons _ (.refl _)))))) |> fun x => (x.b5).tail
      have s7 : HW.Sep h0 (rowsP (rs ++ [(⟨.slice va vn vm, cv⟩, rowL C m.w i)]) :: Blk k (scL m kg ov').toArray 64 :: Sl encCV 1 ov' (rs.map (·.1) ++ [⟨.slice va vn vm, cv⟩]) :: Gc kg m.w m.g C :: F) h5 := by
        unfold rowsP
        rw [List.map_append]
        exact s6.push
      refine Sshut (kg := kg) (ov := ov') (rs := rs ++ [(⟨.slice va vn vm, cv⟩, rowL C m.w i)]) ?_ es ?_
      · rw [List.map_append, e, List.range_succ, List.map_append, List.append_assoc]; rfl
      · rw [List.map_append]
        exact selF (L := [_, _, _, _]) s7 [1, 3, 2, 0] rfl (by decide)
    · rw [if_neg (by simpa using hlt)]
      refine hup ?_ s1
      rw [if_pos h3]
      have : i = q.toNat := by omega
      rw [this]
  · rw [if_neg (by simpa using h3)]
    exact hup (by rw [if_neg h3]) z
end
end Go.Proofs.YtmhhjpfkipficaaDoor

end

section
/- Screens: lines, moves, what is told, what is saved. -/
set_option linter.unusedSimpArgs false
set_option linter.unusedVariables false
namespace Go.Proofs.YtmhhjpfkipficaaDoor
open Go Go.HW

def lineM (m : Sc) : Sc := if m.y = m.bot then { m with late := false } else if m.y < m.g - 1 then { m with late := false, y := m.y + 1 } else { m with late := false }
def lineC (m : Sc) (C : Cel) : Cel := if m.y = m.bot then upC m C 1 else C
def lineO (m : Sc) (C : Cel) (off : List (List Ce)) : List (List Ce) := if m.y = m.bot then upO m C off 1 else off
def wrapM (m : Sc) : Sc := { lineM m with x := 0 }
def backM (m : Sc) : Sc := if m.y = m.top then { m with late := false } else if m.y > 0 then { m with late := false, y := m.y - 1 } else { m with late := false }
def backC (m : Sc) (C : Cel) : Cel := if m.y = m.top then downC m C m.top 1 else C
def moveM (m : Sc) (x y : Int) : Sc := if m.org = true then { m with x := withI x 0 (m.w - 1), y := withI (m.top + withI y (-m.g) m.g) m.top m.bot, late := false } else { m with x := withI x 0 (m.w - 1), y := withI (0 + withI y (-m.g) m.g) 0 (m.g - 1), late := false }
def shiftM (m : Sc) (dx dy : Int) : Sc := { m with x := withI (m.x + withI dx (-m.w) m.w) 0 (m.w - 1), y := withI (m.y + withI dy (-m.g) m.g) (if m.y ≥ m.top then m.top else 0) (if m.y ≤ m.bot then m.bot else m.g - 1), late := false }
def penM (m : Sc) (f b g : Int) : Sc := { m with pf := f, pb := b, pg := g }
def saveM (m : Sc) : Sc := { m with x' := m.x, y' := m.y, late' := m.late, pf' := m.pf, pb' := m.pb, pg' := m.pg, org' := m.org }
def restM (m : Sc) : Sc := { m with x := withI m.x' 0 (m.w - 1), y := withI m.y' 0 (m.g - 1), late := false, pf := m.pf', pb := m.pb', pg := m.pg', org := m.org' }
theorem withI_in {n a b : Int} (h : a ≤ b) : a ≤ withI n a b ∧ withI n a b ≤ b := by unfold withI mnI mxI; split <;> split <;> omega
theorem withI_eq {n a b : Int} (h : a ≤ n ∧ n ≤ b) : withI n a b = n := by unfold withI mnI mxI; split <;> split <;> omega

section
variable {h0 h : Heap} {F : List HP} {R : Value → Heap → Prop} {k kg : Nat} {m : Sc} {C : Cel} {off : List (List Ce)}
theorem st3 {x : Int} {K : Heap → Prop} (z : HW.Sep h0 (Scr k m C off :: F) h) (H : ∀ h', HW.Sep h0 (Scr k { m with x := x } C off :: F) h' → K h') : sSt h (ptr k 3) (.int .i64 x) K := mst (m' := { m with x := x }) z (by decide) trivial (fun _ _ => rfl) rfl rfl rfl H
theorem st4 {y : Int} {K : Heap → Prop} (z : HW.Sep h0 (Scr k m C off :: F) h) (H : ∀ h', HW.Sep h0 (Scr k { m with y := y } C off :: F) h' → K h') : sSt h (ptr k 4) (.int .i64 y) K := mst (m' := { m with y := y }) z (by decide) trivial (fun _ _ => rfl) rfl rfl rfl H
theorem st5 {b : Bool} {K : Heap → Prop} (z : HW.Sep h0 (Scr k m C off :: F) h) (H : ∀ h', HW.Sep h0 (Scr k { m with late := b } C off :: F) h' → K h') : sSt h (ptr k 5) (.bool b) K := mst (m' := { m with late := b }) z (by decide) trivial (fun _ _ => rfl) rfl rfl rfl H
theorem Scroll_spec {n : Int} (hn : i64 n) (z : HW.Sep h0 (Scr k m C off :: F) h) (o : OkS m) (hb : off.length ≤ 1000000) (H : ∀ h', HW.Sep h0 (Scr k { m with late := false } (if n > 0 then upC m C n else downC m C m.top (-(mxI n (-m.g)))) (if n > 0 then upO m C off n else off) :: F) h' → R unit h') : screen_Screen_Scroll_c (ptr k 0) (.int .i64 n) h R := by
  apply screen_Screen_Scroll_runs
  unfold screen_Screen_Scroll_S
  refine cur_spec ?_
  simp only [ev_nil, ev_off, Nat.reduceAdd]
  refine st5 z (fun h1 s1 => ?_)
  rw [ev_gt, ev_if]
  by_cases hp : n > 0
  · rw [if_pos hp, if_pos hp] at H
    rw [if_pos (decide_eq_true hp)]
    exact scrollUp_spec s1 o.t hb H
  · rw [if_neg hp, if_neg hp] at H
    rw [if_neg (by simpa using hp)]
    have og := o.g
    unfold i64 at hn
    simp (disch := omega) only [Nat.zero_add, (rd s1).r19, (rd s1).r2, ev_neg, wrap_i64, Int.zero_sub, ev_max]
    rw [show (if n < -m.g then -m.g else n) = mxI n (-m.g) from rfl]
    have hmx : -512 ≤ mxI n (-m.g) ∧ mxI n (-m.g) ≤ 0 := by unfold mxI; split <;> omega
    exact down_spec s1 o.t H
theorem Line_spec (z : HW.Sep h0 (Scr k m C off :: F) h) (og : 1 ≤ m.g ∧ m.g ≤ 512) (oy : 0 ≤ m.y ∧ m.y < m.g) (ot : 0 ≤ m.top ∧ m.top ≤ m.bot ∧ m.bot < m.g) (hb : off.length ≤ 1000000) (H : ∀ h', HW.Sep h0 (Scr k (lineM m) (lineC m C) (lineO m C off) :: F) h' → R unit h') : screen_Screen_Line_c (ptr k 0) h R := by
  apply screen_Screen_Line_runs
  unfold screen_Screen_Line_S
  unfold lineM lineC lineO at H
  refine cur_spec ?_
  simp only [ev_nil, ev_off, Nat.reduceAdd]
  refine st5 z (fun h1 s1 => ?_)
  simp only [ev_nil, ev_off, Nat.zero_add, (rd s1).r4, (rd s1).r20, (rd s1).r2, ev_eq, ev_if]
  by_cases hp : m.y = m.bot
  · rw [if_pos hp, if_pos hp, if_pos hp] at H
    rw [if_pos (by simpa using hp)]
    exact scrollUp_spec s1 ot hb H
  · rw [if_neg hp, if_neg hp, if_neg hp] at H
    rw [if_neg (by simpa using hp)]
    simp (disch := omega) only [ev_sub, wrap_i64, ev_lt, ev_if]
    by_cases hq : m.y < m.g - 1
    · rw [if_pos hq] at H
      rw [if_pos (by simpa using hq)]
      simp (disch := omega) only [ev_add, wrap_i64]
      exact st4 s1 H
    · rw [if_neg hq] at H
      rw [if_neg (by simpa using hq)]
      exact H _ s1
theorem wrapped_spec (z : HW.Sep h0 (Scr k m C off :: F) h) (o : OkS m) (hb : off.length ≤ 1000000) (H : ∀ h', HW.Sep h0 (Scr k (wrapM m) (lineC m C) (lineO m C off) :: F) h' → R unit h') : screen_Screen_wrapped_c (ptr k 0) h R := by
  apply screen_Screen_wrapped_runs
  unfold screen_Screen_wrapped_S
  refine cur_spec ?_
  simp only [ev_nil, ev_off, Nat.add_zero]
  refine st3 z (fun h1 s1 => ?_)
  have e2 : lineM { m with x := 0 } = wrapM m := by
    unfold wrapM lineM
    simp only
    split
    · rfl
    · split <;> rfl
  exact Line_spec s1 o.g o.y o.t hb (fun h' s' => H h' (by rw [e2] at s'; exact s'))
theorem Back_spec (z : HW.Sep h0 (Scr k m C off :: F) h) (o : OkS m) (H : ∀ h', HW.Sep h0 (Scr k (backM m) (backC m C) off :: F) h' → R unit h') : screen_Screen_Back_c (ptr k 0) h R := by
  apply screen_Screen_Back_runs
  unfold screen_Screen_Back_S
  unfold backM backC at H
  have og := o.g
  have oy := o.y
  refine cur_spec ?_
  simp only [ev_nil, ev_off, Nat.reduceAdd]
  refine st5 z (fun h1 s1 => ?_)
  simp only [ev_nil, ev_off, Nat.zero_add, (rd s1).r4, (rd s1).r19, ev_eq, ev_if]
  by_cases hp : m.y = m.top
  · rw [if_pos hp, if_pos hp] at H
    rw [if_pos (by simpa using hp)]
    exact down_spec s1 o.t H
  · rw [if_neg hp, if_neg hp] at H
    rw [if_neg (by simpa using hp)]
    simp (disch := omega) only [ev_gt, ev_if]
    by_cases hq : m.y > 0
    · rw [if_pos hq] at H
      rw [if_pos (by simpa using hq)]
      simp (disch := omega) only [ev_sub, wrap_i64]
      exact st4 s1 H
    · rw [if_neg hq] at H
      rw [if_neg (by simpa using hq)]
      exact H _ s1
theorem Move_spec {x y : Int} (z : HW.Sep h0 (Scr k m C off :: F) h) (og : 1 ≤ m.g ∧ m.g ≤ 512) (ow : 1 ≤ m.w ∧ m.w ≤ 512) (ot : 0 ≤ m.top ∧ m.top ≤ m.bot ∧ m.bot < m.g) (H : ∀ h', HW.Sep h0 (Scr k (moveM m x y) C off :: F) h' → R unit h') : screen_Screen_Move_c (ptr k 0) (.int .i64 x) (.int .i64 y) h R := by
  apply screen_Screen_Move_runs
  unfold screen_Screen_Move_S
  have hj : ∀ low high : Int, (0 ≤ low ∧ low ≤ 512) → (∀ h', HW.Sep h0 (Scr k { m with x := withI x 0 (m.w - 1), y := withI (low + withI y (-m.g) m.g) low high, late := false } C off :: F) h' → R unit h') → screen_Screen_Move_j1 R (ptr k 0) (.int .i64 x) (.int .i64 y) (ptr k 3) (.int .i64 low) (.int .i64 high) h := by
    intro low high hlow H
    unfold screen_Screen_Move_j1
    obtain ⟨kg, ov, rs, e, es, so⟩ := Sopen z
    have b : Hk k m kg ov h := so.has
    refine ⟨Hk k m kg ov, b, ?_⟩
    simp (disch := omega) only [ev_nil, ev_off, Nat.zero_add, (rd z).r1, ev_sub, wrap_i64]
    refine within_i ⟨b, ?_⟩
    rw [(rdc b).r2]
    refine add_i (by omega) (by omega) ?_
    refine within_i ?_
    simp only [Nat.add_zero, Nat.reduceAdd]
    exact st3 z (fun h1 s1 => st4 s1 (fun h2 s2 => st5 s2 H))
  refine cur_spec ?_
  unfold moveM at H
  simp (disch := omega) only [ev_nil, ev_off, Nat.reduceAdd, Nat.zero_add, (rd z).r2, (rd z).r9, (rd z).r19, (rd z).r20, ev_sub, wrap_i64, ev_if]
  by_cases ho : m.org = true
  · rw [if_pos ho] at H
    rw [if_pos ho]
    exact hj _ _ (by omega) H
  · rw [if_neg ho] at H
    rw [if_neg ho]
    exact hj _ _ (by omega) H
theorem Shift_spec {dx dy : Int} (z : HW.Sep h0 (Scr k m C off :: F) h) (o : OkS m) (H : ∀ h', HW.Sep h0 (Scr k (shiftM m dx dy) C off :: F) h' → R unit h') : screen_Screen_Shift_c (ptr k 0) (.int .i64 dx) (.int .i64 dy) h R := by
  apply screen_Screen_Shift_runs
  unfold screen_Screen_Shift_S
  have og := o.g
  have ow := o.w
  have ox := o.x
  have oy := o.y
  have hj2 : ∀ low high : Int, (∀ h', HW.Sep h0 (Scr k { m with x := withI (m.x + withI dx (-m.w) m.w) 0 (m.w - 1), y := withI (m.y + withI dy (-m.g) m.g) low high, late := false } C off :: F) h' → R unit h') → screen_Screen_Shift_j2 R (ptr k 0) (.int .i64 dx) (.int .i64 dy) (ptr k 3) (.int .i64 low) (.int .i64 high) h := by
    intro low high H
    unfold screen_Screen_Shift_j2
    obtain ⟨kg, ov, rs, e, es, so⟩ := Sopen z
    have b : Hk k m kg ov h := so.has
    refine ⟨Hk k m kg ov, b, ?_⟩
    simp (disch := omega) only [ev_nil, ev_off, Nat.zero_add, Nat.add_zero, (rd z).r1, (rd z).r3, ev_sub, wrap_i64]
    refine add_i (by omega) (by omega) ⟨b, ?_⟩
    rw [(rdc b).r1]
    rw [ev_sub, wrap_i64 (by omega) (by omega)]
    refine within_i ⟨b, ?_⟩
    rw [(rdc b).r4, (rdc b).r2]
    refine add_i (by omega) (by omega) ?_
    refine within_i ?_
    exact st3 z (fun h1 s1 => st4 s1 (fun h2 s2 => st5 s2 H))
  have hj1 : ∀ low : Int, (∀ h', HW.Sep h0 (Scr k { m with x := withI (m.x + withI dx (-m.w) m.w) 0 (m.w - 1), y := withI (m.y + withI dy (-m.g) m.g) low (if m.y ≤ m.bot then m.bot else m.g - 1), late := false } C off :: F) h' → R unit h') → screen_Screen_Shift_j1 R (ptr k 0) (.int .i64 dx) (.int .i64 dy) (ptr k 3) (.int .i64 (m.g - 1)) (.int .i64 low) h := by
    intro low H
    unfold screen_Screen_Shift_j1
    simp (disch := omega) only [ev_nil, ev_off, Nat.reduceAdd, Nat.zero_add, (rd z).r4, (rd z).r20, ev_le, ev_if]
    by_cases hc : m.y ≤ m.bot
    · rw [if_pos hc] at H
      rw [if_pos (decide_eq_true hc)]
      exact hj2 _ _ H
    · rw [if_neg hc] at H
      rw [if_neg (by simpa using hc)]
      exact hj2 _ _ H
  refine cur_spec ?_
  unfold shiftM at H
  simp (disch := omega) only [ev_nil, ev_off, Nat.reduceAdd, Nat.zero_add, (rd z).r2, (rd z).r4, (rd z).r19, ev_sub, wrap_i64, ev_ge, ev_if]
  by_cases hc : m.y ≥ m.top
  · rw [if_pos hc] at H
    rw [if_pos (decide_eq_true hc)]
    exact hj1 _ H
  · rw [if_neg hc] at H
    rw [if_neg (by simpa using hc)]
    exact hj1 _ H
def setL : List Value → Nat → List Value → List Value
  | l, _, [] => l
  | l, o, v :: r => setL (l.set o v) (o + 1) r
theorem putRow_list : ∀ (vs : List Value) (l : List Value) (o : Nat), putRow l.toArray o vs = (setL l o vs).toArray
  | [], _, _ => rfl
  | v :: r, l, o => by rw [putRow, setL, List.setIfInBounds_toArray, putRow_list r]
theorem mldn {o n : Nat} {cs : List Value} {K : Value → Prop} (z : HW.Sep h0 (Scr k m C off :: F) h) (ho : o + n ≤ 21) (hv : ∀ kg ov, ((scL m kg ov).drop o).take n = cs) : sLdN h (ptr k o) n K = K (.agg cs.toArray) := by
  obtain ⟨kg, ov, rs, e, es, so⟩ := Sopen z
  rw [ev_ldn_has so.has (by simp [sc_len]; omega)]
  have : (scL m kg ov).toArray.extract o (o + n) = cs.toArray := by
    rw [← hv kg ov, List.extract_toArray, List.extract_eq_take_drop, Nat.add_sub_cancel_left]
  rw [this]
theorem mstn {o n : Nat} {cs : Array Value} {m' : Sc} {K : Heap → Prop} (z : HW.Sep h0 (Scr k m C off :: F) h) (hs : cs.size = n) (ho : o + n ≤ 21) (hv : ∀ u ∈ cs.toList, Cell1 u) (e : ∀ kg ov, setL (scL m kg ov) o cs.toList = scL m' kg ov) (ew : m'.w = m.w) (eg : m'.g = m.g) (es : m'.st = m.st) (HK : ∀ h', HW.Sep h0 (Scr k m' C off :: F) h' → K h') : sStN h (ptr k o) (.agg cs) n K := by
  obtain ⟨kg, ov, rs, e', es', so⟩ := Sopen z
  refine so.stn hs (by simp [sc_len]; omega) hv (fun h' s' => HK h' ?_)
  rw [putRow_list, e] at s'
  have s2 : HW.Sep h0 (Blk k (scL m' kg ov).toArray 64 :: Gc kg m'.w m'.g C :: Sl encCV 1 ov (rs.map (·.1)) :: rowsP rs :: F) h' := by rw [ew, eg]; exact s'
  exact Sshut e' (by rw [es]; exact es') s2
def penA (f b g : Int) : Array Value := #[.int .i64 f, .int .i64 b, .int .i64 g]
theorem SetPen_spec {f b g : Int} (z : HW.Sep h0 (Scr k m C off :: F) h) (H : ∀ h', HW.Sep h0 (Scr k (penM m f b g) C off :: F) h' → R unit h') : screen_Screen_SetPen_c (ptr k 0) (.agg (penA f b g)) h R := by
  apply screen_Screen_SetPen_runs
  unfold screen_Screen_SetPen_S
  refine z.box (c := penA f b g) rfl (fun b1 h1 s1 => ?_)
  rw [s1.ldall (n := 3) rfl]
  simp only [ev_nil, ev_off, Nat.reduceAdd, Nat.zero_add]
  exact mstn (m' := penM m f b g) s1.tail rfl (by decide) (by intro u hu; simp [penA] at hu; rcases hu with rfl | rfl | rfl <;> trivial) (fun _ _ => rfl) rfl rfl rfl H
theorem Pen_spec (z : HW.Sep h0 (Scr k m C off :: F) h) (H : ∀ h', Ext h h' → R (.agg (penA m.pf m.pb m.pg)) h') : screen_Screen_Pen_c (ptr k 0) h R := by
  apply screen_Screen_Pen_runs
  unfold screen_Screen_Pen_S
  refine (HW.Sep.start h).new (fun b1 h1 s1 => ?_)
  simp only [ev_nil, ev_off, Nat.reduceAdd, Nat.zero_add]
  rw [mldn (z.ext' s1.ext) (cs := [.int .i64 m.pf, .int .i64 m.pb, .int .i64 m.pg]) (by decide) (fun _ _ => rfl)]
  refine s1.stall (cs := penA m.pf m.pb m.pg) rfl rfl (by intro u hu; simp [penA] at hu; rcases hu with rfl | rfl | rfl <;> trivial) (fun h2 s2 => ?_)
  rw [s2.ldall (n := 3) rfl]
  exact H h2 s2.ext
def curA (x y : Int) (l : Bool) : Array Value := #[.int .i64 x, .int .i64 y, .bool l]
theorem curA_cell {x y : Int} {l : Bool} : ∀ u ∈ (curA x y l).toList, Cell1 u := by intro u hu; simp [curA] at hu; rcases hu with rfl | rfl | rfl <;> trivial
theorem Cursor_spec (z : HW.Sep h0 (Scr k m C off :: F) h) (H : ∀ h', Ext h h' → R (.agg (curA m.x m.y m.late)) h') : screen_Screen_Cursor_c (ptr k 0) h R := by
  apply screen_Screen_Cursor_runs
  unfold screen_Screen_Cursor_S
  refine (HW.Sep.start h).new (fun b1 h1 s1 => ?_)
  simp only [ev_nil, ev_off, Nat.reduceAdd, Nat.zero_add]
  rw [mldn (z.ext' s1.ext) (cs := [.int .i64 m.x, .int .i64 m.y, .bool m.late]) (by decide) (fun _ _ => rfl)]
  refine s1.stall (cs := curA m.x m.y m.late) rfl rfl curA_cell (fun h2 s2 => ?_)
  rw [s2.ldall (n := 3) rfl]
  exact H h2 s2.ext
theorem Size_spec (z : HW.Sep h0 (Scr k m C off :: F) h) (H : R (.tuple #[.int .i64 m.w, .int .i64 m.g]) h) : screen_Screen_Size_c (ptr k 0) h R := by
  apply screen_Screen_Size_runs
  unfold screen_Screen_Size_S
  simp only [ev_nil, ev_off, Nat.reduceAdd, Nat.zero_add, (rd z).r1, (rd z).r2]
  exact H
theorem mg (z : HW.Sep h0 (Scr k m C off :: F) h) : ∃ kg, (∀ {K : Value → Prop}, sLd h (ptr k 0) K = K (ptr kg 0)) ∧ HW.Sep h0 (Gc kg m.w m.g C :: (HP.ex fun ov : Value => HP.ex fun p : {rs : List (CV × List Ce) // rs.map (·.2) = off ∧ m.st.length = 512} => HP.all [Blk k (scL m kg ov).toArray 64, Sl encCV 1 ov (p.1.map (·.1)), rowsP p.1]) :: F) h := by
  obtain ⟨kg, ov, rs, e, es, so⟩ := Sopen z
  refine ⟨kg, ldL so.has rfl, ?_⟩
  have s2 := selF (L := [_, _, _, _]) so [0, 2, 3, 1] rfl (by decide)
  have s3 := Sep.shut_all (L := [Blk k (scL m kg ov).toArray 64, Sl encCV 1 ov (rs.map (·.1)), rowsP rs]) s2
  have s4 := Sep.shut_ex (A := fun ov : Value => HP.ex fun p : {rs : List (CV × List Ce) // rs.map (·.2) = off ∧ m.st.length = 512} => HP.all [Blk k (scL m kg ov).toArray 64, Sl encCV 1 ov (p.1.map (·.1)), rowsP p.1]) ov (Sep.shut_ex (A := fun p : {rs : List (CV × List Ce) // rs.map (·.2) = off ∧ m.st.length = 512} => HP.all [Blk k (scL m kg ov).toArray 64, Sl encCV 1 ov (p.1.map (·.1)), rowsP p.1]) ⟨rs, e, es⟩ s3)
  exact s4.b1
theorem At_spec {x y : Int} (hx : i64 x) (hy : i64 y) (z : HW.Sep h0 (Scr k m C off :: F) h) (H : ∀ h', Ext h h' → R (.agg (C x y).a) h') : screen_Screen_At_c (ptr k 0) (.int .i64 x) (.int .i64 y) h R := by
  apply screen_Screen_At_runs
  unfold screen_Screen_At_S
  refine (HW.Sep.start h).new (fun b1 h1 s1 => ?_)
  obtain ⟨kg, f0, zg⟩ := mg (z.ext' s1.ext)
  simp only [ev_nil, ev_off, Nat.reduceAdd, Nat.zero_add, f0]
  refine gat_spec hx hy zg (fun h2 e2 => ?_)
  refine (s1.ext' e2).stall (cs := (C x y).a) rfl rfl (ce_cell _) (fun h3 s3 => ?_)
  rw [s3.ldall (n := 4) rfl]
  exact H h3 s3.ext
theorem Grid_spec (z : HW.Sep h0 (Scr k m C off :: F) h) (H : ∀ kb h', HW.Sep h0 (Gc kb m.w m.g C :: Scr k m C off :: F) h' → R (ptr kb 0) h') : screen_Screen_Grid_c (ptr k 0) h R := by
  apply screen_Screen_Grid_runs
  unfold screen_Screen_Grid_S
  obtain ⟨kg, ov, rs, e, es, so⟩ := Sopen z
  have f0 : ∀ {K : Value → Prop}, sLd h (ptr k 0) K = K (ptr kg 0) := ldL so.has rfl
  simp only [ev_nil, ev_off, Nat.reduceAdd, Nat.zero_add, f0]
  obtain ⟨v, l, zz, e', s⟩ := Gopen so.b1
  refine clone_spec s zz (fun b' v' h' s' => ?_)
  have s2 := selF (L := [_, _, _, _, _, _]) (Gshut zz e' s') [1, 2, 3, 4, 5, 0] rfl (by decide)
  exact H b' h' (Sshut e es (Gshut zz e' s2).b1).b1
theorem Off_spec (z : HW.Sep h0 (Scr k m C off :: F) h) (H : ∀ ov (rs : List (CV × List Ce)) h', rs.map (·.2) = off → HW.Sep h0 (Sl encCV 1 ov (rs.map (·.1)) :: rowsP rs :: Scr k m C [] :: F) h' → R ov h') : screen_Screen_Off_c (ptr k 0) h R := by
  apply screen_Screen_Off_runs
  unfold screen_Screen_Off_S
  obtain ⟨kg, ov, rs, e, es, so⟩ := Sopen z
  have e533 : (scL m kg ov)[533]? = some ov := by
    unfold scL
    rw [List.getElem?_append_right (by simp [scH]), List.getElem?_append_right (by simp [scH, es])]
    simp [scH, es]
  have f533 : ∀ {K : Value → Prop}, sLd h (ptr k 533) K = K ov := ldL so.has e533
  simp only [ev_nil, ev_off, Nat.reduceAdd, Nat.zero_add, f533]
  refine stL so (by rw [sc_len, es]; decide) trivial (fun h1 s1 => ?_)
  have e2 : (scL m kg ov).set 533 (.slice none 0 0) = scL m kg (.slice none 0 0) := by
    unfold scL
    rw [List.set_append_right _ _ (by simp [scH]), List.set_append_right _ _ (by simp [scH, es])]
    simp [scH, es]
  rw [e2] at s1
  have s2 := sep_nil (enc := encCV) (sz := 1) s1
  have s3 : HW.Sep h0 (rowsP [] :: _) h1 := (Sep.shut_all (L := []) s2)
  have s4 := selF (L := [_, _, _, _, _, _]) s3 [2, 3, 1, 0, 4, 5] rfl (by decide)
  have s5 := Sshut (kg := kg) (ov := .slice none 0 0) (rs := []) (off := []) rfl es s4
  exact H ov rs h1 e (selF (L := [_, _, _]) s5 [1, 2, 0] rfl (by decide))
end
end Go.Proofs.YtmhhjpfkipficaaDoor

end

section
/- The shallow reading of one function, and that the function does it. Written by a program. -/
set_option linter.unusedVariables false
namespace Go.Proofs.YtmhhjpfkipficaaDoor
open Go Go.HW

def screen_Screen_mend_j3 (next : Value → Heap → Prop) (x6_1 : Value) (h_4 : Heap) : Prop :=
  sAdd .i64 x6_1 (.int .i64 1) fun x22 =>
  next x22 h_4
def screen_Screen_mend_l2 (R : Value → Heap → Prop) (x2 x3 x4 : Value) (next : Value → Heap → Prop) (x6 : Value) (h_3 : Heap) : Prop :=
  sLd h_3 x2 fun x16 =>
  sNil x16 fun x17 =>
  sOff x17 1 fun x18 =>
  sLd h_3 x18 fun x19 =>
  sLt x6 x19 fun x20 =>
  sIf x20 (sLd h_3 x4 fun x23 =>
  sIxS x23 x6 4 fun x25 =>
  sOff x25 0 fun x26 =>
  sLd h_3 x26 fun x27 =>
  sGt x27 (.int .i32 0) fun x28 =>
  sAndH x28 h_3 (fun k_3 =>
  sLd h_3 x4 fun x30 =>
  sIxS x30 x6 4 fun x32 =>
  sOff x32 0 fun x33 =>
  sLd h_3 x33 fun x34 =>
  wide_Width_c x34 h_3 fun x35 h_7 => 
  sEq x35 (.int .i64 2) fun x36 =>
  k_3 x36 h_7) fun x37 h_5 =>
  sAnd x37 (fun k_2 =>
  sAdd .i64 x6 (.int .i64 1) fun x42 =>
  sLd h_5 x2 fun x43 =>
  sNil x43 fun x44 =>
  sOff x44 1 fun x45 =>
  sLd h_5 x45 fun x46 =>
  sLt x42 x46 fun x47 =>
  k_2 x47) fun x48 =>
  sAnd x48 (fun k_1 =>
  sLd h_5 x4 fun x50 =>
  sAdd .i64 x6 (.int .i64 1) fun x52 =>
  sIxS x50 x52 4 fun x53 =>
  sOff x53 0 fun x54 =>
  sLd h_5 x54 fun x55 =>
  sEq x55 (.int .i32 (-1)) fun x56 =>
  k_1 x56) fun x57 =>
  sIf x57 (sAdd .i64 x6 (.int .i64 1) fun x59 =>
  screen_Screen_mend_j3 next x59 h_5) (sOr x37 (fun k =>
  sLd h_5 x4 fun x63 =>
  sIxS x63 x6 4 fun x65 =>
  sOff x65 0 fun x66 =>
  sLd h_5 x66 fun x67 =>
  sEq x67 (.int .i32 (-1)) fun x68 =>
  k x68) fun x69 =>
  sIf x69 (screen_Screen_mend_1_c x6 x2 x3 x4 h_5 fun x72 h_6 => 
  screen_Screen_mend_j3 next x6 h_6) (screen_Screen_mend_j3 next x6 h_5))) (R unit h_3)
def screen_Screen_mend_j1 (R : Value → Heap → Prop) (x2 x3 x4 : Value) (h_2 : Heap) : Prop :=
  sLoop (S := Value) (fun nxt s h => screen_Screen_mend_l2 R x2 x3 x4 (fun x6' h => nxt x6' h) s h) (.int .i64 0) h_2
def screen_Screen_mend_S (x0 x1 : Value) (h : Heap) (R : Value → Heap → Prop) : Prop :=
  sBox h x0 23 fun x2 h => 
  sBox h x1 3 fun x3 h_1 => 
  ∃ C : Heap → Prop, C h_1 ∧ (sLdC C x2 fun x8 =>
  sNil x8 fun x9 =>
  sOff x9 0 fun x10 =>
  sLdC C x10 fun x11 =>
  sLdC C x3 fun x12 =>
  (grid_Grid_Row_c x11 x12 h_1 fun x13 h_8 => 
  sNew h_8 #[.slice none 0 0] 32 fun x4_1 h_9 => C h_9 ∧ (
  sSt h_9 x4_1 x13 fun h_10 => 
  screen_Screen_mend_j1 R x2 x3 x4_1 h_10)) ∧
  (sNew h_1 #[.slice none 0 0] 32 fun x4_2 h_11 => C h_11 ∧ (
  grid_Grid_Row_c x11 x12 h_11 fun x13_1 h_12 => 
  sSt h_12 x4_2 x13_1 fun h_13 => 
  screen_Screen_mend_j1 R x2 x3 x4_2 h_13)))
set_option maxRecDepth 100000 in
theorem screen_Screen_mend_runs {x0 x1 : Value} {h : Heap} {R : Value → Heap → Prop} (H : screen_Screen_mend_S x0 x1 h R) : screen_Screen_mend_c x0 x1 h R := by
  unfold screen_Screen_mend_S at H
  refine runs_of (b := ⟨([x0, x1, undef, undef, undef, undef, undef, undef, undef, undef, undef, undef, undef, undef, undef, undef, undef, undef, undef, undef, undef, undef, undef, undef, undef, undef, undef, undef, undef, undef, undef, undef, undef, undef, undef, undef, undef, undef, undef, undef, undef, undef, undef, undef, undef, undef, undef, undef, undef, undef] ++ [undef, undef, undef, undef, undef, undef, undef, undef, undef, undef, undef, undef, undef, undef, undef, undef, undef, undef, undef, undef, undef, undef, undef]).toArray, []⟩) Tryd.call88 Tryd.func88 rfl (by kernel_rfl) (fun w0 HA => ?_)
  refine wp_seq ?_
  refine lwp_list ?_
  refine ls_d (d := some 2) (by kernel_rfl) (by kernel_rfl) HA (d_box (by kernel_rfl) H) (fun x2 h w H HA => ?_)
  refine ls_d (d := some 3) (by kernel_rfl) (by kernel_rfl) HA (d_box (by kernel_rfl) H) (fun x3 h_1 w_1 H HA_1 => ?_)
  refine ls_nil ?_
  refine then_normal ?_
  refine fr_eq (b := ⟨([x0, x1, x2, x3, undef, undef, undef, undef, undef, undef, undef, undef, undef, undef, undef, undef, undef, undef, undef, undef, undef, undef, undef, undef, undef, undef, undef, undef, undef, undef, undef, undef, undef, undef, undef, undef, undef, undef, undef, undef, undef, undef, undef, undef, undef, undef, undef, undef, undef, undef] ++ [undef, undef, undef, undef, undef, undef, undef, undef, undef, undef, undef, undef, undef, undef, undef, undef, undef, undef, undef, undef, undef, undef, undef]).toArray, []⟩) (by kernel_rfl) ?_
  refine wp_seq ?_
  refine wp_join (fun a w => ∃ (D : Nat → Value) (x4 : Value) (h_2 : Heap), a = ⟨([x0, x1, x2, x3, x4, undef, undef, undef, (D 0), (D 1), (D 2), (D 3), (D 4), (D 5), undef, undef, undef, undef, undef, undef, undef, undef, undef, undef, undef, undef, undef, undef, undef, undef, undef, undef, undef, undef, undef, undef, undef, undef, undef, undef, undef, undef, undef, undef, undef, undef, undef, undef, undef, undef] ++ [undef, undef, undef, undef, undef, undef, undef, undef, undef, undef, undef, undef, undef, undef, undef, undef, undef, undef, undef, undef, undef, undef, undef]).toArray, []⟩ ∧ At w0 w h_2 ∧ screen_Screen_mend_j1 R x2 x3 x4 h_2) ?_ ?_
  · obtain ⟨C, HC, H⟩ := H
    refine lwp_pl (Nat.testBit 224) (Nat.testBit 64) (Nat.testBit 6) [0, 1, 3, 7, 0, 31, 0, 127] (Nat.testBit 0) C (.op 0 (.op 1 (.op 2 (.op 3 (.op 4 (.alt (.op 5 (.op 6 (.op 7 .done))) (.op 6 (.op 5 (.op 7 .done))))))))) (by kernel_rfl) (by kernel_rfl) (by kernel_rfl) HA_1 HC ?_
    intro w_11 HA_11
    refine lp_f (d := some 8) (by kernel_rfl) rfl (by kernel_rfl) (by kernel_rfl) (by kernel_rfl) (by kernel_rfl) (c_ld Tryd.isAgg23 (by kernel_rfl) H) (fun x8 H => ?_)
    refine lp_p (d := some 9) (by kernel_rfl) rfl (by kernel_rfl) (by kernel_rfl) (p_nil (by kernel_rfl) H) (fun x9 H => ?_)
    refine lp_p (d := some 10) (by kernel_rfl) rfl (by kernel_rfl) (by kernel_rfl) (p_off Tryd.underlying64 rfl (fun w => ⟨_, Tryd.sizeOf54 w⟩) rfl (by kernel_rfl) H) (fun x10 H => ?_)
    refine lp_f (d := some 11) (by kernel_rfl) rfl (by kernel_rfl) (by kernel_rfl) (by kernel_rfl) (by kernel_rfl) (c_ld Tryd.isAgg54 (by kernel_rfl) H) (fun x11 H => ?_)
    refine lp_f (d := some 12) (by kernel_rfl) rfl (by kernel_rfl) (by kernel_rfl) (by kernel_rfl) (by kernel_rfl) (c_ld Tryd.isAgg3 (by kernel_rfl) H) (fun x12 H => ?_)
    obtain ⟨Ha, Hb⟩ := H
    refine lp_alt ?_ ?_
    · have H := Ha
      clear Ha Hb
      refine lp_d (d := some 13) (by kernel_rfl) rfl (by kernel_rfl) (by kernel_rfl) (by kernel_rfl) HA_11 (d_call (by kernel_rfl) (by kernel_rfl) H) (fun x13 h_8 w_12 H HA_12 => ?_)
      refine lp_fr (b := ⟨([x0, x1, x2, x3, undef, undef, undef, undef, x8, x9, x10, x11, x12, x13, undef, undef, undef, undef, undef, undef, undef, undef, undef, undef, undef, undef, undef, undef, undef, undef, undef, undef, undef, undef, undef, undef, undef, undef, undef, undef, undef, undef, undef, undef, undef, undef, undef, undef, undef, undef] ++ [undef, undef, undef, undef, undef, undef, undef, undef, undef, undef, undef, undef, undef, undef, undef, undef, undef, undef, undef, undef, undef, undef, undef]).toArray, []⟩) (by kernel_rfl) ?_
      refine lp_dc (d := some 4) (by kernel_rfl) rfl (by kernel_rfl) (by kernel_rfl) (by kernel_rfl) HA_12 (d_alloc Tryd.zeroValue32 H) (fun x4_1 h_9 w_13 H HA_13 => ?_)
      refine lp_d (d := none) (by kernel_rfl) rfl (by kernel_rfl) (by kernel_rfl) (by kernel_rfl) HA_13 (d_st Tryd.sizeOf32 (by kernel_rfl) (by kernel_rfl) H) (fun _ h_10 w_14 H HA_14 => ?_)
      refine lp_nil ?_
      exact ⟨(fun i => ([x8, x9, x10, x11, x12, x13]).getD i undef), x4_1, h_10, by kernel_rfl, HA_14, H⟩
    · have H := Hb
      clear Ha Hb
      refine lp_dc (d := some 4) (by kernel_rfl) rfl (by kernel_rfl) (by kernel_rfl) (by kernel_rfl) HA_11 (d_alloc Tryd.zeroValue32 H) (fun x4_2 h_11 w_15 H HA_15 => ?_)
      refine lp_fr (b := ⟨([x0, x1, x2, x3, x4_2, undef, undef, undef, x8, x9, x10, x11, x12, undef, undef, undef, undef, undef, undef, undef, undef, undef, undef, undef, undef, undef, undef, undef, undef, undef, undef, undef, undef, undef, undef, undef, undef, undef, undef, undef, undef, undef, undef, undef, undef, undef, undef, undef, undef, undef] ++ [undef, undef, undef, undef, undef, undef, undef, undef, undef, undef, undef, undef, undef, undef, undef, undef, undef, undef, undef, undef, undef, undef, undef]).toArray, []⟩) (by kernel_rfl) ?_
      refine lp_d (d := some 13) (by kernel_rfl) rfl (by kernel_rfl) (by kernel_rfl) (by kernel_rfl) HA_15 (d_call (by kernel_rfl) (by kernel_rfl) H) (fun x13_1 h_12 w_16 H HA_16 => ?_)
      refine lp_d (d := none) (by kernel_rfl) rfl (by kernel_rfl) (by kernel_rfl) (by kernel_rfl) HA_16 (d_st Tryd.sizeOf32 (by kernel_rfl) (by kernel_rfl) H) (fun _ h_13 w_17 H HA_17 => ?_)
      refine lp_nil ?_
      exact ⟨(fun i => ([x8, x9, x10, x11, x12, x13_1]).getD i undef), x4_2, h_13, by kernel_rfl, HA_17, H⟩
  · rintro _ w_2 ⟨D, x4, h_2, rfl, HA_2, H⟩
    unfold screen_Screen_mend_j1 at H
    refine then_normal ?_
    refine fr_eq (b := ⟨([x0, x1, x2, x3, x4, undef, undef, undef, (D 0), (D 1), (D 2), (D 3), (D 4), (D 5), undef, undef, undef, undef, undef, undef, undef, undef, undef, undef, undef, undef, undef, undef, undef, undef, undef, undef, undef, undef, undef, undef, undef, undef, undef, undef, undef, undef, undef, undef, undef, undef, undef, undef, undef, undef] ++ [undef, undef, undef, undef, undef, undef, undef, undef, undef, undef, undef, undef, undef, undef, undef, undef, undef, undef, undef, undef, undef, undef, undef]).toArray, []⟩) (by kernel_rfl) ?_
    refine wp_seq ?_
    refine lwp_list ?_
    refine ls_al (x := (.func (.func 99) #[] #[x2, x3, x4])) (d := some 14) (by kernel_rfl) (by kernel_rfl) (al_mkf (by kernel_rfl) (by kernel_rfl)) ?_
    refine ls_assign (x := (.func (.func 99) #[] #[x2, x3, x4])) (by kernel_rfl) (by kernel_rfl) ?_
    refine ls_nil ?_
    refine then_normal ?_
    refine fr_eq (b := ⟨([x0, x1, x2, x3, x4, (.func (.func 99) #[] #[x2, x3, x4]), undef, undef, (D 0), (D 1), (D 2), (D 3), (D 4), (D 5), (.func (.func 99) #[] #[x2, x3, x4]), undef, undef, undef, undef, undef, undef, undef, undef, undef, undef, undef, undef, undef, undef, undef, undef, undef, undef, undef, undef, undef, undef, undef, undef, undef, undef, undef, undef, undef, undef, undef, undef, undef, undef, undef] ++ [undef, undef, undef, undef, undef, undef, undef, undef, undef, undef, undef, undef, undef, undef, undef, undef, undef, undef, undef, undef, undef, undef, undef]).toArray, []⟩) (by kernel_rfl) ?_
    refine wp_seq ?_
    refine lwp_list ?_
    refine ls_assign (x := (.int .i64 0)) (by kernel_rfl) (by kernel_rfl) ?_
    refine ls_nil ?_
    refine then_normal ?_
    refine fr_eq (b := ⟨([x0, x1, x2, x3, x4, (.func (.func 99) #[] #[x2, x3, x4]), (.int .i64 0), undef, (D 0), (D 1), (D 2), (D 3), (D 4), (D 5), (.func (.func 99) #[] #[x2, x3, x4]), undef, undef, undef, undef, undef, undef, undef, undef, undef, undef, undef, undef, undef, undef, undef, undef, undef, undef, undef, undef, undef, undef, undef, undef, undef, undef, undef, undef, undef, undef, undef, undef, undef, undef, undef] ++ [undef, undef, undef, undef, undef, undef, undef, undef, undef, undef, undef, undef, undef, undef, undef, undef, undef, undef, undef, undef, undef, undef, undef]).toArray, []⟩) (by kernel_rfl) ?_
    refine wp_block ?_
    obtain ⟨I, m, H0, HB⟩ := H
    refine wp_loop (fun a w => ∃ (D_1 : Nat → Value) (x6 : Value) (h_3 : Heap), a = ⟨([x0, x1, x2, x3, x4, (.func (.func 99) #[] #[x2, x3, x4]), x6, (D_1 0), (D 0), (D 1), (D 2), (D 3), (D 4), (D 5), (.func (.func 99) #[] #[x2, x3, x4]), (D_1 1), (D_1 2), (D_1 3), (D_1 4), (D_1 5), (D_1 6), (D_1 7), (D_1 8), (D_1 9), (D_1 10), (D_1 11), (D_1 12), (D_1 13), (D_1 14), (D_1 15), (D_1 16), (D_1 17), (D_1 18), (D_1 19), (D_1 20), (D_1 21), (D_1 22), (D_1 23), (D_1 24), (D_1 25), (D_1 26), (D_1 27), (D_1 28), (D_1 29), (D_1 30), (D_1 31), (D_1 32), (D_1 33), (D_1 34), (D_1 35)] ++ [(D_1 36), (D_1 37), (D_1 38), (D_1 39), (D_1 40), (D_1 41), (D_1 42), (D_1 43), (D_1 44), (D_1 45), (D_1 46), (D_1 47), (D_1 48), (D_1 49), (D_1 50), (D_1 51), (D_1 52), (D_1 53), (D_1 54), (D_1 55), (D_1 56), (D_1 57), (D_1 58)]).toArray, []⟩ ∧ At w0 w h_3 ∧ I x6 h_3) (fun a w => m (a.tmps.getD 6 undef) w.heap) ?_ ?_
    · exact ⟨(fun i => ([undef, undef, undef, undef, undef, undef, undef, undef, undef, undef, undef, undef, undef, undef, undef, undef, undef, undef, undef, undef, undef, undef, undef, undef, undef, undef, undef, undef, undef, undef, undef, undef, undef, undef, undef, undef, undef, undef, undef, undef, undef, undef, undef, undef, undef, undef, undef, undef, undef, undef] ++ [undef, undef, undef, undef, undef, undef, undef, undef, undef]).getD i undef), (.int .i64 0), h_2, by kernel_rfl, HA_2, H0⟩
    · rintro _ w_3 ⟨D_1, x6, h_3, rfl, HA_3, HI⟩
      have H : screen_Screen_mend_l2 R x2 x3 x4 (fun x6' h' => I x6' h' ∧ m x6' h' < m x6 h_3) x6 h_3 := HB x6 h_3 HI
      clear HB H0 HI
      unfold screen_Screen_mend_l2 at H
      refine wp_seq ?_
      refine wp_seq ?_
      refine lwp_list ?_
      refine ls_move (x := x6) (by kernel_rfl) (by kernel_rfl) ?_
      refine ls_y (d := some 16) (by kernel_rfl) (by kernel_rfl) HA_3 (y_ld Tryd.isAgg23 (by kernel_rfl) H) (fun x16 H => ?_)
      refine ls_p (d := some 17) (by kernel_rfl) (by kernel_rfl) (p_nil (by kernel_rfl) H) (fun x17 H => ?_)
      refine ls_p (d := some 18) (by kernel_rfl) (by kernel_rfl) (p_off Tryd.underlying64 rfl (fun w => ⟨_, Tryd.sizeOf3 w⟩) rfl (by kernel_rfl) H) (fun x18 H => ?_)
      refine ls_y (d := some 19) (by kernel_rfl) (by kernel_rfl) HA_3 (y_ld Tryd.isAgg3 (by kernel_rfl) H) (fun x19 H => ?_)
      refine ls_p (d := some 20) (by kernel_rfl) (by kernel_rfl) (p_sLt (by kernel_rfl) (by kernel_rfl) H) (fun x20 H => ?_)
      refine ls_nil ?_
      refine then_normal ?_
      refine fr_eq (b := ⟨([x0, x1, x2, x3, x4, (.func (.func 99) #[] #[x2, x3, x4]), x6, (D_1 0), (D 0), (D 1), (D 2), (D 3), (D 4), (D 5), (.func (.func 99) #[] #[x2, x3, x4]), x6, x16, x17, x18, x19, x20, (D_1 7), (D_1 8), (D_1 9), (D_1 10), (D_1 11), (D_1 12), (D_1 13), (D_1 14), (D_1 15), (D_1 16), (D_1 17), (D_1 18), (D_1 19), (D_1 20), (D_1 21), (D_1 22), (D_1 23), (D_1 24), (D_1 25), (D_1 26), (D_1 27), (D_1 28), (D_1 29), (D_1 30), (D_1 31), (D_1 32), (D_1 33), (D_1 34), (D_1 35)] ++ [(D_1 36), (D_1 37), (D_1 38), (D_1 39), (D_1 40), (D_1 41), (D_1 42), (D_1 43), (D_1 44), (D_1 45), (D_1 46), (D_1 47), (D_1 48), (D_1 49), (D_1 50), (D_1 51), (D_1 52), (D_1 53), (D_1 54), (D_1 55), (D_1 56), (D_1 57), (D_1 58)]).toArray, []⟩) (by kernel_rfl) ?_
      refine wp_if rfl H (fun H => ?_) (fun H => ?_)
      · refine wp_skip ?_
        refine then_normal ?_
        refine fr_eq (b := ⟨([x0, x1, x2, x3, x4, (.func (.func 99) #[] #[x2, x3, x4]), x6, (D_1 0), (D 0), (D 1), (D 2), (D 3), (D 4), (D 5), (.func (.func 99) #[] #[x2, x3, x4]), x6, x16, x17, x18, x19, x20, (D_1 7), (D_1 8), (D_1 9), (D_1 10), (D_1 11), (D_1 12), (D_1 13), (D_1 14), (D_1 15), (D_1 16), (D_1 17), (D_1 18), (D_1 19), (D_1 20), (D_1 21), (D_1 22), (D_1 23), (D_1 24), (D_1 25), (D_1 26), (D_1 27), (D_1 28), (D_1 29), (D_1 30), (D_1 31), (D_1 32), (D_1 33), (D_1 34), (D_1 35)] ++ [(D_1 36), (D_1 37), (D_1 38), (D_1 39), (D_1 40), (D_1 41), (D_1 42), (D_1 43), (D_1 44), (D_1 45), (D_1 46), (D_1 47), (D_1 48), (D_1 49), (D_1 50), (D_1 51), (D_1 52), (D_1 53), (D_1 54), (D_1 55), (D_1 56), (D_1 57), (D_1 58)]).toArray, []⟩) (by kernel_rfl) ?_
        refine wp_seq ?_
        refine wp_join (fun a w => ∃ (D_2 : Nat → Value) (x6_1 : Value) (h_4 : Heap), a = ⟨([x0, x1, x2, x3, x4, (.func (.func 99) #[] #[x2, x3, x4]), x6_1, (D_2 0), (D 0), (D 1), (D 2), (D 3), (D 4), (D 5), (.func (.func 99) #[] #[x2, x3, x4]), x6, x16, x17, x18, x19, x20, (D_1 7), (D_1 8), (D_2 1), (D_2 2), (D_2 3), (D_2 4), (D_2 5), (D_2 6), (D_2 7), (D_2 8), (D_2 9), (D_2 10), (D_2 11), (D_2 12), (D_2 13), (D_2 14), (D_2 15), (D_2 16), (D_2 17), (D_2 18), (D_2 19), (D_2 20), (D_2 21), (D_2 22), (D_2 23), (D_2 24), (D_2 25), (D_2 26), (D_2 27)] ++ [(D_2 28), (D_2 29), (D_2 30), (D_2 31), (D_2 32), (D_2 33), (D_2 34), (D_2 35), (D_2 36), (D_2 37), (D_2 38), (D_2 39), (D_2 40), (D_2 41), (D_2 42), (D_2 43), (D_2 44), (D_2 45), (D_2 46), (D_2 47), (D_2 48), (D_2 49), (D_2 50)]).toArray, []⟩ ∧ At w0 w h_4 ∧ screen_Screen_mend_j3 (fun x6' h' => I x6' h' ∧ m x6' h' < m x6 h_3) x6_1 h_4) ?_ ?_
        · refine wp_block ?_
          refine wp_seq ?_
          refine lwp_list ?_
          refine ls_y (d := some 23) (by kernel_rfl) (by kernel_rfl) HA_3 (y_ld Tryd.isAgg32 (by kernel_rfl) H) (fun x23 H => ?_)
          refine ls_move (x := x6) (by kernel_rfl) (by kernel_rfl) ?_
          refine ls_p (d := some 25) (by kernel_rfl) (by kernel_rfl) (p_ixs Tryd.underlying32 Tryd.sizeOf31 (by kernel_rfl) (by kernel_rfl) H) (fun x25 H => ?_)
          refine ls_p (d := some 26) (by kernel_rfl) (by kernel_rfl) (p_off Tryd.underlying31 rfl (fun w => ⟨_, Tryd.sizeOf21 w⟩) rfl (by kernel_rfl) H) (fun x26 H => ?_)
          refine ls_y (d := some 27) (by kernel_rfl) (by kernel_rfl) HA_3 (y_ld Tryd.isAgg21 (by kernel_rfl) H) (fun x27 H => ?_)
          refine ls_p (d := some 28) (by kernel_rfl) (by kernel_rfl) (p_sGt (by kernel_rfl) (by kernel_rfl) H) (fun x28 H => ?_)
          refine ls_fr (b := ⟨([x0, x1, x2, x3, x4, (.func (.func 99) #[] #[x2, x3, x4]), x6, (D_1 0), (D 0), (D 1), (D 2), (D 3), (D 4), (D 5), (.func (.func 99) #[] #[x2, x3, x4]), x6, x16, x17, x18, x19, x20, (D_1 7), (D_1 8), x23, x6, x25, x26, x27, x28, (D_1 15), (D_1 16), (D_1 17), (D_1 18), (D_1 19), (D_1 20), (D_1 21), (D_1 22), (D_1 23), (D_1 24), (D_1 25), (D_1 26), (D_1 27), (D_1 28), (D_1 29), (D_1 30), (D_1 31), (D_1 32), (D_1 33), (D_1 34), (D_1 35)] ++ [(D_1 36), (D_1 37), (D_1 38), (D_1 39), (D_1 40), (D_1 41), (D_1 42), (D_1 43), (D_1 44), (D_1 45), (D_1 46), (D_1 47), (D_1 48), (D_1 49), (D_1 50), (D_1 51), (D_1 52), (D_1 53), (D_1 54), (D_1 55), (D_1 56), (D_1 57), (D_1 58)]).toArray, []⟩) (by kernel_rfl) ?_
          refine ls_move (x := x28) (by kernel_rfl) (by kernel_rfl) ?_
          refine ls_andh [(), (), (), (), (), (), (), ()] (fun K a w => ∃ (D_3 : Nat → Value) (x37 : Value) (h_5 : Heap), a = ⟨([x0, x1, x2, x3, x4, (.func (.func 99) #[] #[x2, x3, x4]), x6, (D_1 0), (D 0), (D 1), (D 2), (D 3), (D 4), (D 5), (.func (.func 99) #[] #[x2, x3, x4]), x6, x16, x17, x18, x19, x20, (D_1 7), (D_1 8), x23, x6, x25, x26, x27, x28, x28, (D_3 0), (D_3 1), (D_3 2), (D_3 3), (D_3 4), (D_3 5), (D_3 6), x37, (D_1 24), (D_1 25), (D_1 26), (D_1 27), (D_1 28), (D_1 29), (D_1 30), (D_1 31), (D_1 32), (D_1 33), (D_1 34), (D_1 35)] ++ [(D_1 36), (D_1 37), (D_1 38), (D_1 39), (D_1 40), (D_1 41), (D_1 42), (D_1 43), (D_1 44), (D_1 45), (D_1 46), (D_1 47), (D_1 48), (D_1 49), (D_1 50), (D_1 51), (D_1 52), (D_1 53), (D_1 54), (D_1 55), (D_1 56), (D_1 57), (D_1 58)]).toArray, []⟩ ∧ At w0 w h_5 ∧ K x37 h_5) H (fun hb_3 H => ?_) (fun hb_3 H => ?_) ?_
          · refine ls_y (d := some 30) (by kernel_rfl) (by rw [hb_3]; kernel_rfl) HA_3 (y_ld Tryd.isAgg32 (by kernel_rfl) H) (fun x30 H => ?_)
            refine ls_move (x := x6) (by rw [hb_3]; kernel_rfl) (by kernel_rfl) ?_
            refine ls_p (d := some 32) (by kernel_rfl) (by rw [hb_3]; kernel_rfl) (p_ixs Tryd.underlying32 Tryd.sizeOf31 (by kernel_rfl) (by kernel_rfl) H) (fun x32 H => ?_)
            refine ls_p (d := some 33) (by kernel_rfl) (by rw [hb_3]; kernel_rfl) (p_off Tryd.underlying31 rfl (fun w => ⟨_, Tryd.sizeOf21 w⟩) rfl (by kernel_rfl) H) (fun x33 H => ?_)
            refine ls_y (d := some 34) (by kernel_rfl) (by rw [hb_3]; kernel_rfl) HA_3 (y_ld Tryd.isAgg21 (by kernel_rfl) H) (fun x34 H => ?_)
            refine ls_fr (b := ⟨([x0, x1, x2, x3, x4, (.func (.func 99) #[] #[x2, x3, x4]), x6, (D_1 0), (D 0), (D 1), (D 2), (D 3), (D 4), (D 5), (.func (.func 99) #[] #[x2, x3, x4]), x6, x16, x17, x18, x19, x20, (D_1 7), (D_1 8), x23, x6, x25, x26, x27, x28, x28, x30, x6, x32, x33, x34, (D_1 21), (D_1 22), (D_1 23), (D_1 24), (D_1 25), (D_1 26), (D_1 27), (D_1 28), (D_1 29), (D_1 30), (D_1 31), (D_1 32), (D_1 33), (D_1 34), (D_1 35)] ++ [(D_1 36), (D_1 37), (D_1 38), (D_1 39), (D_1 40), (D_1 41), (D_1 42), (D_1 43), (D_1 44), (D_1 45), (D_1 46), (D_1 47), (D_1 48), (D_1 49), (D_1 50), (D_1 51), (D_1 52), (D_1 53), (D_1 54), (D_1 55), (D_1 56), (D_1 57), (D_1 58)]).toArray, []⟩) (by kernel_rfl) ?_
            refine ls_d (d := some 35) (by kernel_rfl) (by rw [hb_3]; kernel_rfl) HA_3 (d_call (by kernel_rfl) (by kernel_rfl) H) (fun x35 h_7 w_10 H HA_10 => ?_)
            refine ls_p (d := some 36) (by kernel_rfl) (by rw [hb_3]; kernel_rfl) (p_sEq (by kernel_rfl) (by kernel_rfl) H) (fun x36 H => ?_)
            refine ls_pick_t (x := x36) (by kernel_rfl) (by rw [hb_3]; kernel_rfl) (by kernel_rfl) ?_
            refine ls_nil ?_
            refine then_normal ?_
            exact ⟨(fun i => ([x30, x6, x32, x33, x34, x35, x36]).getD i undef), x36, h_7, by kernel_rfl, HA_10, H⟩
          · refine ls_skip (d := some 30) (by kernel_rfl) (by rw [hb_3]; kernel_rfl) ?_
            refine ls_skip (d := some 31) (by kernel_rfl) (by rw [hb_3]; kernel_rfl) ?_
            refine ls_skip (d := some 32) (by kernel_rfl) (by rw [hb_3]; kernel_rfl) ?_
            refine ls_skip (d := some 33) (by kernel_rfl) (by rw [hb_3]; kernel_rfl) ?_
            refine ls_skip (d := some 34) (by kernel_rfl) (by rw [hb_3]; kernel_rfl) ?_
            refine ls_fr (b := ⟨([x0, x1, x2, x3, x4, (.func (.func 99) #[] #[x2, x3, x4]), x6, (D_1 0), (D 0), (D 1), (D 2), (D 3), (D 4), (D 5), (.func (.func 99) #[] #[x2, x3, x4]), x6, x16, x17, x18, x19, x20, (D_1 7), (D_1 8), x23, x6, x25, x26, x27, x28, x28, undef, undef, undef, undef, undef, (D_1 21), (D_1 22), (D_1 23), (D_1 24), (D_1 25), (D_1 26), (D_1 27), (D_1 28), (D_1 29), (D_1 30), (D_1 31), (D_1 32), (D_1 33), (D_1 34), (D_1 35)] ++ [(D_1 36), (D_1 37), (D_1 38), (D_1 39), (D_1 40), (D_1 41), (D_1 42), (D_1 43), (D_1 44), (D_1 45), (D_1 46), (D_1 47), (D_1 48), (D_1 49), (D_1 50), (D_1 51), (D_1 52), (D_1 53), (D_1 54), (D_1 55), (D_1 56), (D_1 57), (D_1 58)]).toArray, []⟩) (by kernel_rfl) ?_
            refine ls_skip (d := some 35) (by kernel_rfl) (by rw [hb_3]; kernel_rfl) ?_
            refine ls_skip (d := some 36) (by kernel_rfl) (by rw [hb_3]; kernel_rfl) ?_
            refine ls_pick_f (y := (.bool false)) (by kernel_rfl) (by rw [hb_3]; kernel_rfl) (by kernel_rfl) ?_
            refine ls_nil ?_
            refine then_normal ?_
            exact ⟨(fun i => ([undef, undef, undef, undef, undef, undef, undef]).getD i undef), (.bool false), h_3, by kernel_rfl, HA_3, H⟩
          · rintro _ w_5 ⟨D_3, x37, h_5, rfl, HA_5, H⟩
            refine ls_assign (x := x37) (by kernel_rfl) (by kernel_rfl) ?_
            refine ls_nil ?_
            refine then_normal ?_
            refine fr_eq (b := ⟨([x0, x1, x2, x3, x4, (.func (.func 99) #[] #[x2, x3, x4]), x6, x37, (D 0), (D 1), (D 2), (D 3), (D 4), (D 5), (.func (.func 99) #[] #[x2, x3, x4]), x6, x16, x17, x18, x19, x20, (D_1 7), (D_1 8), x23, x6, x25, x26, x27, x28, x28, (D_3 0), (D_3 1), (D_3 2), (D_3 3), (D_3 4), (D_3 5), (D_3 6), x37, (D_1 24), (D_1 25), (D_1 26), (D_1 27), (D_1 28), (D_1 29), (D_1 30), (D_1 31), (D_1 32), (D_1 33), (D_1 34), (D_1 35)] ++ [(D_1 36), (D_1 37), (D_1 38), (D_1 39), (D_1 40), (D_1 41), (D_1 42), (D_1 43), (D_1 44), (D_1 45), (D_1 46), (D_1 47), (D_1 48), (D_1 49), (D_1 50), (D_1 51), (D_1 52), (D_1 53), (D_1 54), (D_1 55), (D_1 56), (D_1 57), (D_1 58)]).toArray, []⟩) (by kernel_rfl) ?_
            refine wp_block ?_
            refine wp_seq ?_
            refine lwp_list ?_
            refine ls_move (x := x37) (by kernel_rfl) (by kernel_rfl) ?_
            refine ls_move (x := x37) (by kernel_rfl) (by kernel_rfl) ?_
            refine ls_and [(), (), (), (), (), (), (), ()] (fun K a w => ∃ (D_4 : Nat → Value) (x48 : Value), a = ⟨([x0, x1, x2, x3, x4, (.func (.func 99) #[] #[x2, x3, x4]), x6, x37, (D 0), (D 1), (D 2), (D 3), (D 4), (D 5), (.func (.func 99) #[] #[x2, x3, x4]), x6, x16, x17, x18, x19, x20, (D_1 7), (D_1 8), x23, x6, x25, x26, x27, x28, x28, (D_3 0), (D_3 1), (D_3 2), (D_3 3), (D_3 4), (D_3 5), (D_3 6), x37, (D_1 24), x37, x37, (D_4 0), (D_4 1), (D_4 2), (D_4 3), (D_4 4), (D_4 5), (D_4 6), x48, (D_1 35)] ++ [(D_1 36), (D_1 37), (D_1 38), (D_1 39), (D_1 40), (D_1 41), (D_1 42), (D_1 43), (D_1 44), (D_1 45), (D_1 46), (D_1 47), (D_1 48), (D_1 49), (D_1 50), (D_1 51), (D_1 52), (D_1 53), (D_1 54), (D_1 55), (D_1 56), (D_1 57), (D_1 58)]).toArray, []⟩ ∧ At w0 w h_5 ∧ K x48) H (fun hb_2 H => ?_) (fun hb_2 H => ?_) ?_
            · refine ls_move (x := x6) (by rw [hb_2]; kernel_rfl) (by kernel_rfl) ?_
              refine ls_p (d := some 42) (by kernel_rfl) (by rw [hb_2]; kernel_rfl) (p_add (by kernel_rfl) (by kernel_rfl) H) (fun x42 H => ?_)
              refine ls_y (d := some 43) (by kernel_rfl) (by rw [hb_2]; kernel_rfl) HA_5 (y_ld Tryd.isAgg23 (by kernel_rfl) H) (fun x43 H => ?_)
              refine ls_p (d := some 44) (by kernel_rfl) (by rw [hb_2]; kernel_rfl) (p_nil (by kernel_rfl) H) (fun x44 H => ?_)
              refine ls_fr (b := ⟨([x0, x1, x2, x3, x4, (.func (.func 99) #[] #[x2, x3, x4]), x6, x37, (D 0), (D 1), (D 2), (D 3), (D 4), (D 5), (.func (.func 99) #[] #[x2, x3, x4]), x6, x16, x17, x18, x19, x20, (D_1 7), (D_1 8), x23, x6, x25, x26, x27, x28, x28, (D_3 0), (D_3 1), (D_3 2), (D_3 3), (D_3 4), (D_3 5), (D_3 6), x37, (D_1 24), x37, x37, x6, x42, x43, x44, (D_1 31), (D_1 32), (D_1 33), (D_1 34), (D_1 35)] ++ [(D_1 36), (D_1 37), (D_1 38), (D_1 39), (D_1 40), (D_1 41), (D_1 42), (D_1 43), (D_1 44), (D_1 45), (D_1 46), (D_1 47), (D_1 48), (D_1 49), (D_1 50), (D_1 51), (D_1 52), (D_1 53), (D_1 54), (D_1 55), (D_1 56), (D_1 57), (D_1 58)]).toArray, []⟩) (by kernel_rfl) ?_
              refine ls_p (d := some 45) (by kernel_rfl) (by rw [hb_2]; kernel_rfl) (p_off Tryd.underlying64 rfl (fun w => ⟨_, Tryd.sizeOf3 w⟩) rfl (by kernel_rfl) H) (fun x45 H => ?_)
              refine ls_y (d := some 46) (by kernel_rfl) (by rw [hb_2]; kernel_rfl) HA_5 (y_ld Tryd.isAgg3 (by kernel_rfl) H) (fun x46 H => ?_)
              refine ls_p (d := some 47) (by kernel_rfl) (by rw [hb_2]; kernel_rfl) (p_sLt (by kernel_rfl) (by kernel_rfl) H) (fun x47 H => ?_)
              refine ls_pick_t (x := x47) (by kernel_rfl) (by rw [hb_2]; kernel_rfl) (by kernel_rfl) ?_
              refine ls_nil ?_
              refine then_normal ?_
              exact ⟨(fun i => ([x6, x42, x43, x44, x45, x46, x47]).getD i undef), x47, by kernel_rfl, HA_5, H⟩
            · refine ls_skip (d := some 41) (by kernel_rfl) (by rw [hb_2]; kernel_rfl) ?_
              refine ls_skip (d := some 42) (by kernel_rfl) (by rw [hb_2]; kernel_rfl) ?_
              refine ls_skip (d := some 43) (by kernel_rfl) (by rw [hb_2]; kernel_rfl) ?_
              refine ls_skip (d := some 44) (by kernel_rfl) (by rw [hb_2]; kernel_rfl) ?_
              refine ls_fr (b := ⟨([x0, x1, x2, x3, x4, (.func (.func 99) #[] #[x2, x3, x4]), x6, x37, (D 0), (D 1), (D 2), (D 3), (D 4), (D 5), (.func (.func 99) #[] #[x2, x3, x4]), x6, x16, x17, x18, x19, x20, (D_1 7), (D_1 8), x23, x6, x25, x26, x27, x28, x28, (D_3 0), (D_3 1), (D_3 2), (D_3 3), (D_3 4), (D_3 5), (D_3 6), x37, (D_1 24), x37, x37, undef, undef, undef, undef, (D_1 31), (D_1 32), (D_1 33), (D_1 34), (D_1 35)] ++ [(D_1 36), (D_1 37), (D_1 38), (D_1 39), (D_1 40), (D_1 41), (D_1 42), (D_1 43), (D_1 44), (D_1 45), (D_1 46), (D_1 47), (D_1 48), (D_1 49), (D_1 50), (D_1 51), (D_1 52), (D_1 53), (D_1 54), (D_1 55), (D_1 56), (D_1 57), (D_1 58)]).toArray, []⟩) (by kernel_rfl) ?_
              refine ls_skip (d := some 45) (by kernel_rfl) (by rw [hb_2]; kernel_rfl) ?_
              refine ls_skip (d := some 46) (by kernel_rfl) (by rw [hb_2]; kernel_rfl) ?_
              refine ls_skip (d := some 47) (by kernel_rfl) (by rw [hb_2]; kernel_rfl) ?_
              refine ls_pick_f (y := (.bool false)) (by kernel_rfl) (by rw [hb_2]; kernel_rfl) (by kernel_rfl) ?_
              refine ls_nil ?_
              refine then_normal ?_
              exact ⟨(fun i => ([undef, undef, undef, undef, undef, undef, undef]).getD i undef), (.bool false), by kernel_rfl, HA_5, H⟩
            · rintro _ w_6 ⟨D_4, x48, rfl, HA_6, H⟩
              refine ls_move (x := x48) (by kernel_rfl) (by kernel_rfl) ?_
              refine ls_and [(), (), (), (), (), (), (), ()] (fun K a w => ∃ (D_5 : Nat → Value) (x57 : Value), a = ⟨([x0, x1, x2, x3, x4, (.func (.func 99) #[] #[x2, x3, x4]), x6, x37, (D 0), (D 1), (D 2), (D 3), (D 4), (D 5), (.func (.func 99) #[] #[x2, x3, x4]), x6, x16, x17, x18, x19, x20, (D_1 7), (D_1 8), x23, x6, x25, x26, x27, x28, x28, (D_3 0), (D_3 1), (D_3 2), (D_3 3), (D_3 4), (D_3 5), (D_3 6), x37, (D_1 24), x37, x37, (D_4 0), (D_4 1), (D_4 2), (D_4 3), (D_4 4), (D_4 5), (D_4 6), x48, x48] ++ [(D_5 0), (D_5 1), (D_5 2), (D_5 3), (D_5 4), (D_5 5), (D_5 6), x57, (D_1 44), (D_1 45), (D_1 46), (D_1 47), (D_1 48), (D_1 49), (D_1 50), (D_1 51), (D_1 52), (D_1 53), (D_1 54), (D_1 55), (D_1 56), (D_1 57), (D_1 58)]).toArray, []⟩ ∧ At w0 w h_5 ∧ K x57) H (fun hb_1 H => ?_) (fun hb_1 H => ?_) ?_
              · refine ls_y (d := some 50) (by kernel_rfl) (by rw [hb_1]; kernel_rfl) HA_6 (y_ld Tryd.isAgg32 (by kernel_rfl) H) (fun x50 H => ?_)
                refine ls_move (x := x6) (by rw [hb_1]; kernel_rfl) (by kernel_rfl) ?_
                refine ls_p (d := some 52) (by kernel_rfl) (by rw [hb_1]; kernel_rfl) (p_add (by kernel_rfl) (by kernel_rfl) H) (fun x52 H => ?_)
                refine ls_p (d := some 53) (by kernel_rfl) (by rw [hb_1]; kernel_rfl) (p_ixs Tryd.underlying32 Tryd.sizeOf31 (by kernel_rfl) (by kernel_rfl) H) (fun x53 H => ?_)
                refine ls_p (d := some 54) (by kernel_rfl) (by rw [hb_1]; kernel_rfl) (p_off Tryd.underlying31 rfl (fun w => ⟨_, Tryd.sizeOf21 w⟩) rfl (by kernel_rfl) H) (fun x54 H => ?_)
                refine ls_fr (b := ⟨([x0, x1, x2, x3, x4, (.func (.func 99) #[] #[x2, x3, x4]), x6, x37, (D 0), (D 1), (D 2), (D 3), (D 4), (D 5), (.func (.func 99) #[] #[x2, x3, x4]), x6, x16, x17, x18, x19, x20, (D_1 7), (D_1 8), x23, x6, x25, x26, x27, x28, x28, (D_3 0), (D_3 1), (D_3 2), (D_3 3), (D_3 4), (D_3 5), (D_3 6), x37, (D_1 24), x37, x37, (D_4 0), (D_4 1), (D_4 2), (D_4 3), (D_4 4), (D_4 5), (D_4 6), x48, x48] ++ [x50, x6, x52, x53, x54, (D_1 41), (D_1 42), (D_1 43), (D_1 44), (D_1 45), (D_1 46), (D_1 47), (D_1 48), (D_1 49), (D_1 50), (D_1 51), (D_1 52), (D_1 53), (D_1 54), (D_1 55), (D_1 56), (D_1 57), (D_1 58)]).toArray, []⟩) (by kernel_rfl) ?_
                refine ls_y (d := some 55) (by kernel_rfl) (by rw [hb_1]; kernel_rfl) HA_6 (y_ld Tryd.isAgg21 (by kernel_rfl) H) (fun x55 H => ?_)
                refine ls_p (d := some 56) (by kernel_rfl) (by rw [hb_1]; kernel_rfl) (p_sEq (by kernel_rfl) (by kernel_rfl) H) (fun x56 H => ?_)
                refine ls_pick_t (x := x56) (by kernel_rfl) (by rw [hb_1]; kernel_rfl) (by kernel_rfl) ?_
                refine ls_nil ?_
                refine then_normal ?_
                exact ⟨(fun i => ([x50, x6, x52, x53, x54, x55, x56]).getD i undef), x56, by kernel_rfl, HA_6, H⟩
              · refine ls_skip (d := some 50) (by kernel_rfl) (by rw [hb_1]; kernel_rfl) ?_
                refine ls_skip (d := some 51) (by kernel_rfl) (by rw [hb_1]; kernel_rfl) ?_
                refine ls_skip (d := some 52) (by kernel_rfl) (by rw [hb_1]; kernel_rfl) ?_
                refine ls_skip (d := some 53) (by kernel_rfl) (by rw [hb_1]; kernel_rfl) ?_
                refine ls_skip (d := some 54) (by kernel_rfl) (by rw [hb_1]; kernel_rfl) ?_
                refine ls_fr (b := ⟨([x0, x1, x2, x3, x4, (.func (.func 99) #[] #[x2, x3, x4]), x6, x37, (D 0), (D 1), (D 2), (D 3), (D 4), (D 5), (.func (.func 99) #[] #[x2, x3, x4]), x6, x16, x17, x18, x19, x20, (D_1 7), (D_1 8), x23, x6, x25, x26, x27, x28, x28, (D_3 0), (D_3 1), (D_3 2), (D_3 3), (D_3 4), (D_3 5), (D_3 6), x37, (D_1 24), x37, x37, (D_4 0), (D_4 1), (D_4 2), (D_4 3), (D_4 4), (D_4 5), (D_4 6), x48, x48] ++ [undef, undef, undef, undef, undef, (D_1 41), (D_1 42), (D_1 43), (D_1 44), (D_1 45), (D_1 46), (D_1 47), (D_1 48), (D_1 49), (D_1 50), (D_1 51), (D_1 52), (D_1 53), (D_1 54), (D_1 55), (D_1 56), (D_1 57), (D_1 58)]).toArray, []⟩) (by kernel_rfl) ?_
                refine ls_skip (d := some 55) (by kernel_rfl) (by rw [hb_1]; kernel_rfl) ?_
                refine ls_skip (d := some 56) (by kernel_rfl) (by rw [hb_1]; kernel_rfl) ?_
                refine ls_pick_f (y := (.bool false)) (by kernel_rfl) (by rw [hb_1]; kernel_rfl) (by kernel_rfl) ?_
                refine ls_nil ?_
                refine then_normal ?_
                exact ⟨(fun i => ([undef, undef, undef, undef, undef, undef, undef]).getD i undef), (.bool false), by kernel_rfl, HA_6, H⟩
              · rintro _ w_7 ⟨D_5, x57, rfl, HA_7, H⟩
                refine ls_assign (x := x57) (by kernel_rfl) (by kernel_rfl) ?_
                refine ls_nil ?_
                refine then_normal ?_
                refine fr_eq (b := ⟨([x0, x1, x2, x3, x4, (.func (.func 99) #[] #[x2, x3, x4]), x6, x37, (D 0), (D 1), (D 2), (D 3), (D 4), (D 5), (.func (.func 99) #[] #[x2, x3, x4]), x6, x16, x17, x18, x19, x20, (D_1 7), (D_1 8), x23, x6, x25, x26, x27, x28, x28, (D_3 0), (D_3 1), (D_3 2), (D_3 3), (D_3 4), (D_3 5), (D_3 6), x37, x57, x37, x37, (D_4 0), (D_4 1), (D_4 2), (D_4 3), (D_4 4), (D_4 5), (D_4 6), x48, x48] ++ [(D_5 0), (D_5 1), (D_5 2), (D_5 3), (D_5 4), (D_5 5), (D_5 6), x57, (D_1 44), (D_1 45), (D_1 46), (D_1 47), (D_1 48), (D_1 49), (D_1 50), (D_1 51), (D_1 52), (D_1 53), (D_1 54), (D_1 55), (D_1 56), (D_1 57), (D_1 58)]).toArray, []⟩) (by kernel_rfl) ?_
                refine wp_if rfl H (fun H => ?_) (fun H => ?_)
                · refine lwp_list ?_
                  refine ls_move (x := x6) (by kernel_rfl) (by kernel_rfl) ?_
                  refine ls_p (d := some 59) (by kernel_rfl) (by kernel_rfl) (p_add (by kernel_rfl) (by kernel_rfl) H) (fun x59 H => ?_)
                  refine ls_assign (x := x59) (by kernel_rfl) (by kernel_rfl) ?_
                  refine ls_nil ?_
                  refine block_normal ?_
                  refine block_normal ?_
                  exact ⟨(fun i => ([x37, x23, x6, x25, x26, x27, x28, x28, (D_3 0), (D_3 1), (D_3 2), (D_3 3), (D_3 4), (D_3 5), (D_3 6), x37, x57, x37, x37, (D_4 0), (D_4 1), (D_4 2), (D_4 3), (D_4 4), (D_4 5), (D_4 6), x48, x48, (D_5 0), (D_5 1), (D_5 2), (D_5 3), (D_5 4), (D_5 5), (D_5 6), x57, x6, x59, (D_1 46), (D_1 47), (D_1 48), (D_1 49), (D_1 50), (D_1 51), (D_1 52), (D_1 53), (D_1 54), (D_1 55), (D_1 56), (D_1 57)] ++ [(D_1 58)]).getD i undef), x59, h_5, by kernel_rfl, HA_7, H⟩
                · refine wp_seq ?_
                  refine lwp_list ?_
                  refine ls_move (x := x37) (by kernel_rfl) (by kernel_rfl) ?_
                  refine ls_move (x := x37) (by kernel_rfl) (by kernel_rfl) ?_
                  refine ls_or [(), (), (), (), (), (), ()] (fun K a w => ∃ (D_6 : Nat → Value) (x69 : Value), a = ⟨([x0, x1, x2, x3, x4, (.func (.func 99) #[] #[x2, x3, x4]), x6, x37, (D 0), (D 1), (D 2), (D 3), (D 4), (D 5), (.func (.func 99) #[] #[x2, x3, x4]), x6, x16, x17, x18, x19, x20, (D_1 7), (D_1 8), x23, x6, x25, x26, x27, x28, x28, (D_3 0), (D_3 1), (D_3 2), (D_3 3), (D_3 4), (D_3 5), (D_3 6), x37, x57, x37, x37, (D_4 0), (D_4 1), (D_4 2), (D_4 3), (D_4 4), (D_4 5), (D_4 6), x48, x48] ++ [(D_5 0), (D_5 1), (D_5 2), (D_5 3), (D_5 4), (D_5 5), (D_5 6), x57, (D_1 44), (D_1 45), (D_1 46), x37, x37, (D_6 0), (D_6 1), (D_6 2), (D_6 3), (D_6 4), (D_6 5), x69, (D_1 56), (D_1 57), (D_1 58)]).toArray, []⟩ ∧ At w0 w h_5 ∧ K x69) H (fun hb H => ?_) (fun hb H => ?_) ?_
                  · refine ls_y (d := some 63) (by kernel_rfl) (by rw [hb]; kernel_rfl) HA_7 (y_ld Tryd.isAgg32 (by kernel_rfl) H) (fun x63 H => ?_)
                    refine ls_move (x := x6) (by rw [hb]; kernel_rfl) (by kernel_rfl) ?_
                    refine ls_p (d := some 65) (by kernel_rfl) (by rw [hb]; kernel_rfl) (p_ixs Tryd.underlying32 Tryd.sizeOf31 (by kernel_rfl) (by kernel_rfl) H) (fun x65 H => ?_)
                    refine ls_p (d := some 66) (by kernel_rfl) (by rw [hb]; kernel_rfl) (p_off Tryd.underlying31 rfl (fun w => ⟨_, Tryd.sizeOf21 w⟩) rfl (by kernel_rfl) H) (fun x66 H => ?_)
                    refine ls_fr (b := ⟨([x0, x1, x2, x3, x4, (.func (.func 99) #[] #[x2, x3, x4]), x6, x37, (D 0), (D 1), (D 2), (D 3), (D 4), (D 5), (.func (.func 99) #[] #[x2, x3, x4]), x6, x16, x17, x18, x19, x20, (D_1 7), (D_1 8), x23, x6, x25, x26, x27, x28, x28, (D_3 0), (D_3 1), (D_3 2), (D_3 3), (D_3 4), (D_3 5), (D_3 6), x37, x57, x37, x37, (D_4 0), (D_4 1), (D_4 2), (D_4 3), (D_4 4), (D_4 5), (D_4 6), x48, x48] ++ [(D_5 0), (D_5 1), (D_5 2), (D_5 3), (D_5 4), (D_5 5), (D_5 6), x57, (D_1 44), (D_1 45), (D_1 46), x37, x37, x63, x6, x65, x66, (D_1 53), (D_1 54), (D_1 55), (D_1 56), (D_1 57), (D_1 58)]).toArray, []⟩) (by kernel_rfl) ?_
                    refine ls_y (d := some 67) (by kernel_rfl) (by rw [hb]; kernel_rfl) HA_7 (y_ld Tryd.isAgg21 (by kernel_rfl) H) (fun x67 H => ?_)
                    refine ls_p (d := some 68) (by kernel_rfl) (by rw [hb]; kernel_rfl) (p_sEq (by kernel_rfl) (by kernel_rfl) H) (fun x68 H => ?_)
                    refine ls_pick_f (y := x68) (by kernel_rfl) (by rw [hb]; kernel_rfl) (by kernel_rfl) ?_
                    refine ls_nil ?_
                    refine then_normal ?_
                    exact ⟨(fun i => ([x63, x6, x65, x66, x67, x68]).getD i undef), x68, by kernel_rfl, HA_7, H⟩
                  · refine ls_skip (d := some 63) (by kernel_rfl) (by rw [hb]; kernel_rfl) ?_
                    refine ls_skip (d := some 64) (by kernel_rfl) (by rw [hb]; kernel_rfl) ?_
                    refine ls_skip (d := some 65) (by kernel_rfl) (by rw [hb]; kernel_rfl) ?_
                    refine ls_skip (d := some 66) (by kernel_rfl) (by rw [hb]; kernel_rfl) ?_
                    refine ls_fr (b := ⟨([x0, x1, x2, x3, x4, (.func (.func 99) #[] #[x2, x3, x4]), x6, x37, (D 0), (D 1), (D 2), (D 3), (D 4), (D 5), (.func (.func 99) #[] #[x2, x3, x4]), x6, x16, x17, x18, x19, x20, (D_1 7), (D_1 8), x23, x6, x25, x26, x27, x28, x28, (D_3 0), (D_3 1), (D_3 2), (D_3 3), (D_3 4), (D_3 5), (D_3 6), x37, x57, x37, x37, (D_4 0), (D_4 1), (D_4 2), (D_4 3), (D_4 4), (D_4 5), (D_4 6), x48, x48] ++ [(D_5 0), (D_5 1), (D_5 2), (D_5 3), (D_5 4), (D_5 5), (D_5 6), x57, (D_1 44), (D_1 45), (D_1 46), x37, x37, undef, undef, undef, undef, (D_1 53), (D_1 54), (D_1 55), (D_1 56), (D_1 57), (D_1 58)]).toArray, []⟩) (by kernel_rfl) ?_
                    refine ls_skip (d := some 67) (by kernel_rfl) (by rw [hb]; kernel_rfl) ?_
                    refine ls_skip (d := some 68) (by kernel_rfl) (by rw [hb]; kernel_rfl) ?_
                    refine ls_pick_t (x := (.bool true)) (by kernel_rfl) (by rw [hb]; kernel_rfl) (by kernel_rfl) ?_
                    refine ls_nil ?_
                    refine then_normal ?_
                    exact ⟨(fun i => ([undef, undef, undef, undef, undef, undef]).getD i undef), (.bool true), by kernel_rfl, HA_7, H⟩
                  · rintro _ w_8 ⟨D_6, x69, rfl, HA_8, H⟩
                    refine ls_assign (x := x69) (by kernel_rfl) (by kernel_rfl) ?_
                    refine ls_nil ?_
                    refine then_normal ?_
                    refine fr_eq (b := ⟨([x0, x1, x2, x3, x4, (.func (.func 99) #[] #[x2, x3, x4]), x6, x37, (D 0), (D 1), (D 2), (D 3), (D 4), (D 5), (.func (.func 99) #[] #[x2, x3, x4]), x6, x16, x17, x18, x19, x20, (D_1 7), (D_1 8), x23, x6, x25, x26, x27, x28, x28, (D_3 0), (D_3 1), (D_3 2), (D_3 3), (D_3 4), (D_3 5), (D_3 6), x37, x57, x37, x37, (D_4 0), (D_4 1), (D_4 2), (D_4 3), (D_4 4), (D_4 5), (D_4 6), x48, x48] ++ [(D_5 0), (D_5 1), (D_5 2), (D_5 3), (D_5 4), (D_5 5), (D_5 6), x57, (D_1 44), (D_1 45), x69, x37, x37, (D_6 0), (D_6 1), (D_6 2), (D_6 3), (D_6 4), (D_6 5), x69, (D_1 56), (D_1 57), (D_1 58)]).toArray, []⟩) (by kernel_rfl) ?_
                    refine wp_if rfl H (fun H => ?_) (fun H => ?_)
                    · refine lwp_list ?_
                      refine ls_move (x := (.func (.func 99) #[] #[x2, x3, x4])) (by kernel_rfl) (by kernel_rfl) ?_
                      refine ls_move (x := x6) (by kernel_rfl) (by kernel_rfl) ?_
                      refine ls_d (d := some 72) (by kernel_rfl) (by kernel_rfl) HA_8 (d_callv (fs := #[]) (us := #[x6]) (cs := #[x2, x3, x4]) (by kernel_rfl) (by kernel_rfl) (by kernel_rfl) H) (fun x72 h_6 w_9 H HA_9 => ?_)
                      refine ls_nil ?_
                      refine block_normal ?_
                      refine block_normal ?_
                      exact ⟨(fun i => ([x37, x23, x6, x25, x26, x27, x28, x28, (D_3 0), (D_3 1), (D_3 2), (D_3 3), (D_3 4), (D_3 5), (D_3 6), x37, x57, x37, x37, (D_4 0), (D_4 1), (D_4 2), (D_4 3), (D_4 4), (D_4 5), (D_4 6), x48, x48, (D_5 0), (D_5 1), (D_5 2), (D_5 3), (D_5 4), (D_5 5), (D_5 6), x57, (D_1 44), (D_1 45), x69, x37, x37, (D_6 0), (D_6 1), (D_6 2), (D_6 3), (D_6 4), (D_6 5), x69, (.func (.func 99) #[] #[x2, x3, x4]), x6] ++ [x72]).getD i undef), x6, h_6, by kernel_rfl, HA_9, H⟩
                    · refine wp_skip ?_
                      refine block_normal ?_
                      refine block_normal ?_
                      exact ⟨(fun i => ([x37, x23, x6, x25, x26, x27, x28, x28, (D_3 0), (D_3 1), (D_3 2), (D_3 3), (D_3 4), (D_3 5), (D_3 6), x37, x57, x37, x37, (D_4 0), (D_4 1), (D_4 2), (D_4 3), (D_4 4), (D_4 5), (D_4 6), x48, x48, (D_5 0), (D_5 1), (D_5 2), (D_5 3), (D_5 4), (D_5 5), (D_5 6), x57, (D_1 44), (D_1 45), x69, x37, x37, (D_6 0), (D_6 1), (D_6 2), (D_6 3), (D_6 4), (D_6 5), x69, (D_1 56), (D_1 57)] ++ [(D_1 58)]).getD i undef), x6, h_5, by kernel_rfl, HA_8, H⟩
        · rintro _ w_4 ⟨D_2, x6_1, h_4, rfl, HA_4, H⟩
          unfold screen_Screen_mend_j3 at H
          refine then_normal ?_
          refine fr_eq (b := ⟨([x0, x1, x2, x3, x4, (.func (.func 99) #[] #[x2, x3, x4]), x6_1, (D_2 0), (D 0), (D 1), (D 2), (D 3), (D 4), (D 5), (.func (.func 99) #[] #[x2, x3, x4]), x6, x16, x17, x18, x19, x20, (D_1 7), (D_1 8), (D_2 1), (D_2 2), (D_2 3), (D_2 4), (D_2 5), (D_2 6), (D_2 7), (D_2 8), (D_2 9), (D_2 10), (D_2 11), (D_2 12), (D_2 13), (D_2 14), (D_2 15), (D_2 16), (D_2 17), (D_2 18), (D_2 19), (D_2 20), (D_2 21), (D_2 22), (D_2 23), (D_2 24), (D_2 25), (D_2 26), (D_2 27)] ++ [(D_2 28), (D_2 29), (D_2 30), (D_2 31), (D_2 32), (D_2 33), (D_2 34), (D_2 35), (D_2 36), (D_2 37), (D_2 38), (D_2 39), (D_2 40), (D_2 41), (D_2 42), (D_2 43), (D_2 44), (D_2 45), (D_2 46), (D_2 47), (D_2 48), (D_2 49), (D_2 50)]).toArray, []⟩) (by kernel_rfl) ?_
          refine lwp_list ?_
          refine ls_move (x := x6_1) (by kernel_rfl) (by kernel_rfl) ?_
          refine ls_p (d := some 22) (by kernel_rfl) (by kernel_rfl) (p_add (by kernel_rfl) (by kernel_rfl) H) (fun x22 H => ?_)
          refine ls_assign (x := x22) (by kernel_rfl) (by kernel_rfl) ?_
          refine ls_nil ?_
          exact ⟨⟨(fun i => ([(D_2 0), x6, x16, x17, x18, x19, x20, x6_1, x22, (D_2 1), (D_2 2), (D_2 3), (D_2 4), (D_2 5), (D_2 6), (D_2 7), (D_2 8), (D_2 9), (D_2 10), (D_2 11), (D_2 12), (D_2 13), (D_2 14), (D_2 15), (D_2 16), (D_2 17), (D_2 18), (D_2 19), (D_2 20), (D_2 21), (D_2 22), (D_2 23), (D_2 24), (D_2 25), (D_2 26), (D_2 27), (D_2 28), (D_2 29), (D_2 30), (D_2 31), (D_2 32), (D_2 33), (D_2 34), (D_2 35), (D_2 36), (D_2 37), (D_2 38), (D_2 39), (D_2 40), (D_2 41)] ++ [(D_2 42), (D_2 43), (D_2 44), (D_2 45), (D_2 46), (D_2 47), (D_2 48), (D_2 49), (D_2 50)]).getD i undef), x22, h_4, by kernel_rfl, HA_4, H.1⟩, loop_lt HA_4.heap HA_3.heap (by kernel_rfl) (by kernel_rfl) H.2⟩
      · refine wp_exit ?_
        refine then_exit ?_
        refine then_exit ?_
        refine block_exit ?_
        exact end0 (Tryd.results88) (by kernel_rfl) HA_3 H _ (.inl rfl)

end Go.Proofs.YtmhhjpfkipficaaDoor

end

section
/- The shallow reading of one function, and that the function does it. Written by a program. -/
set_option linter.unusedVariables false
namespace Go.Proofs.YtmhhjpfkipficaaDoor
open Go Go.HW

def screen_Screen_mend_1_S (x0 x1 x2 x3 : Value) (h : Heap) (R : Value → Heap → Prop) : Prop :=
  sLd h x1 fun x5 =>
  sNil x5 fun x6 =>
  sOff x6 0 fun x7 =>
  sLd h x7 fun x8 =>
  sLd h x2 fun x10 =>
  sLd h x3 fun x11 =>
  sIxS x11 x0 4 fun x13 =>
  sOff x13 1 fun x14 =>
  sLdN h x14 3 fun x15 =>
  sBuild #[.int .i32 0, .int .i64 0, .int .i64 0, .int .i64 0] [(1, 3, x15)] fun x16 =>
  grid_Grid_Set_c x8 x0 x10 x16 h fun x17 h => 
  R unit h
set_option maxRecDepth 100000 in
theorem screen_Screen_mend_1_runs {x0 x1 x2 x3 : Value} {h : Heap} {R : Value → Heap → Prop} (H : screen_Screen_mend_1_S x0 x1 x2 x3 h R) : screen_Screen_mend_1_c x0 x1 x2 x3 h R := by
  unfold screen_Screen_mend_1_S at H
  refine runs_of (b := ⟨#[x0, x1, x2, x3, undef, undef, undef, undef, undef, undef, undef, undef, undef, undef, undef, undef, undef, undef], []⟩) Tryd.call99 Tryd.func99 rfl (by kernel_rfl) (fun w0 HA => ?_)
  refine lwp_mx (Nat.testBit 4096) (Nat.testBit 0) (Nat.testBit 2966) [0, 1, 3, 7, 0, 0, 0, 0, 192, 448, 960, 1984, 4095] (Nat.testBit 0) (fun h' => h' = h) [0, 1, 2, 3, 4, 5, 6, 7, 8, 9, 10, 11, 12] (by kernel_rfl) (by kernel_rfl) (by kernel_rfl) (by kernel_rfl) HA rfl ?_
  intro w HA
  refine lm_f (d := some 5) (by kernel_rfl) rfl (by kernel_rfl) (by kernel_rfl) (by kernel_rfl) (by kernel_rfl) (of_eq (y_ld Tryd.isAgg23 (by kernel_rfl) H)) (fun x5 H => ?_)
  refine lm_p (d := some 6) (by kernel_rfl) rfl (by kernel_rfl) (by kernel_rfl) (p_nil (by kernel_rfl) H) (fun x6 H => ?_)
  refine lm_p (d := some 7) (by kernel_rfl) rfl (by kernel_rfl) (by kernel_rfl) (p_off Tryd.underlying64 rfl (fun w => ⟨_, Tryd.sizeOf54 w⟩) rfl (by kernel_rfl) H) (fun x7 H => ?_)
  refine lm_f (d := some 8) (by kernel_rfl) rfl (by kernel_rfl) (by kernel_rfl) (by kernel_rfl) (by kernel_rfl) (of_eq (y_ld Tryd.isAgg54 (by kernel_rfl) H)) (fun x8 H => ?_)
  refine lm_al (x := x0) (d := some 9) (by kernel_rfl) rfl (by kernel_rfl) (by kernel_rfl) (al_move (by kernel_rfl)) ?_
  refine lm_f (d := some 10) (by kernel_rfl) rfl (by kernel_rfl) (by kernel_rfl) (by kernel_rfl) (by kernel_rfl) (of_eq (y_ld Tryd.isAgg3 (by kernel_rfl) H)) (fun x10 H => ?_)
  refine lm_fr (b := ⟨#[x0, x1, x2, x3, undef, x5, x6, x7, x8, x0, x10, undef, undef, undef, undef, undef, undef, undef], []⟩) (by kernel_rfl) ?_
  refine lm_f (d := some 11) (by kernel_rfl) rfl (by kernel_rfl) (by kernel_rfl) (by kernel_rfl) (by kernel_rfl) (of_eq (y_ld Tryd.isAgg32 (by kernel_rfl) H)) (fun x11 H => ?_)
  refine lm_al (x := x0) (d := some 12) (by kernel_rfl) rfl (by kernel_rfl) (by kernel_rfl) (al_move (by kernel_rfl)) ?_
  refine lm_p (d := some 13) (by kernel_rfl) rfl (by kernel_rfl) (by kernel_rfl) (p_ixs Tryd.underlying32 Tryd.sizeOf31 (by kernel_rfl) (by kernel_rfl) H) (fun x13 H => ?_)
  refine lm_p (d := some 14) (by kernel_rfl) rfl (by kernel_rfl) (by kernel_rfl) (p_off Tryd.underlying31 rfl (fun w => ⟨_, Tryd.sizeOf29 w⟩) rfl (by kernel_rfl) H) (fun x14 H => ?_)
  refine lm_f (d := some 15) (by kernel_rfl) rfl (by kernel_rfl) (by kernel_rfl) (by kernel_rfl) (by kernel_rfl) (of_eq (y_ldn Tryd.isAgg29 Tryd.sizeOf29 (by kernel_rfl) H)) (fun x15 H => ?_)
  refine lm_p (d := some 16) (by kernel_rfl) rfl (by kernel_rfl) (by kernel_rfl) (p_lit (pl := [(0, 1), (1, 3)]) Tryd.zeroValue31 Tryd.underlying31 ⟨(by kernel_rfl), Tryd.sizeOf21, (by kernel_rfl), Tryd.sizeOf29, trivial⟩ (by kernel_rfl) (by kernel_rfl) H) (fun x16 H => ?_)
  refine lm_fr (b := ⟨#[x0, x1, x2, x3, undef, x5, x6, x7, x8, x0, x10, x11, x0, x13, x14, x15, x16, undef], []⟩) (by kernel_rfl) ?_
  refine lm_d (d := some 17) (by kernel_rfl) rfl (by kernel_rfl) (by kernel_rfl) (by kernel_rfl) HA (d_call (by kernel_rfl) (by kernel_rfl) H) (fun x17 h w_1 H HA_1 => ?_)
  refine lm_nil ?_
  exact end0 (Tryd.results99) (by kernel_rfl) HA_1 H _ (.inl rfl)

end Go.Proofs.YtmhhjpfkipficaaDoor

end

section
/- The shallow reading of one function, and that the function does it. Written by a program. -/
set_option linter.unusedVariables false
namespace Go.Proofs.YtmhhjpfkipficaaDoor
open Go Go.HW

def screen_Screen_wipe_S (x0 x1 x2 x3 : Value) (h : Heap) (R : Value → Heap → Prop) : Prop :=
  ∃ C : Heap → Prop, C h ∧ (sNil x0 fun x9 =>
  sOff x9 0 fun x10 =>
  sLdC C x10 fun x11 =>
  sSub .i64 x3 x2 fun x16 =>
  sBuild #[.int .i64 0, .int .i64 0, .int .i64 0, .int .i64 0] [(0, 1, x2), (1, 1, x1), (2, 1, x16), (3, 1, (.int .i64 1))] fun x17 =>
  screen_Screen_blank_c x0 h fun x19 h => C h ∧ (
  grid_Grid_Fill_c x11 x17 x19 h fun x20 h_1 => 
  screen_Screen_mend_c x0 x1 h_1 fun x23 h_2 => 
  R unit h_2))
set_option maxRecDepth 100000 in
theorem screen_Screen_wipe_runs {x0 x1 x2 x3 : Value} {h : Heap} {R : Value → Heap → Prop} (H : screen_Screen_wipe_S x0 x1 x2 x3 h R) : screen_Screen_wipe_c x0 x1 x2 x3 h R := by
  unfold screen_Screen_wipe_S at H
  refine runs_of (b := ⟨#[x0, x1, x2, x3, undef, undef, undef, undef, undef, undef, undef, undef, undef, undef, undef, undef, undef, undef, undef, undef, undef, undef, undef, undef], []⟩) Tryd.call78 Tryd.func78 rfl (by kernel_rfl) (fun w0 HA => ?_)
  refine wp_seq ?_
  obtain ⟨C, HC, H⟩ := H
  refine lwp_mx (Nat.testBit 6144) (Nat.testBit 2048) (Nat.testBit 2039) [0, 1, 3, 7, 0, 0, 0, 0, 192, 496, 0, 1024, 4095] (Nat.testBit 0) C [0, 1, 2, 3, 4, 5, 6, 7, 8, 9, 10, 11, 12] (by kernel_rfl) (by kernel_rfl) (by kernel_rfl) (by kernel_rfl) HA HC ?_
  intro w HA
  refine lm_al (x := x0) (d := some 8) (by kernel_rfl) rfl (by kernel_rfl) (by kernel_rfl) (al_move (by kernel_rfl)) ?_
  refine lm_p (d := some 9) (by kernel_rfl) rfl (by kernel_rfl) (by kernel_rfl) (p_nil (by kernel_rfl) H) (fun x9 H => ?_)
  refine lm_p (d := some 10) (by kernel_rfl) rfl (by kernel_rfl) (by kernel_rfl) (p_off Tryd.underlying64 rfl (fun w => ⟨_, Tryd.sizeOf54 w⟩) rfl (by kernel_rfl) H) (fun x10 H => ?_)
  refine lm_f (d := some 11) (by kernel_rfl) rfl (by kernel_rfl) (by kernel_rfl) (by kernel_rfl) (by kernel_rfl) (c_ld Tryd.isAgg54 (by kernel_rfl) H) (fun x11 H => ?_)
  refine lm_al (x := x2) (d := some 12) (by kernel_rfl) rfl (by kernel_rfl) (by kernel_rfl) (al_move (by kernel_rfl)) ?_
  refine lm_al (x := x1) (d := some 13) (by kernel_rfl) rfl (by kernel_rfl) (by kernel_rfl) (al_move (by kernel_rfl)) ?_
  refine lm_fr (b := ⟨#[x0, x1, x2, x3, undef, undef, undef, undef, x0, x9, x10, x11, x2, x1, undef, undef, undef, undef, undef, undef, undef, undef, undef, undef], []⟩) (by kernel_rfl) ?_
  refine lm_al (x := x3) (d := some 14) (by kernel_rfl) rfl (by kernel_rfl) (by kernel_rfl) (al_move (by kernel_rfl)) ?_
  refine lm_al (x := x2) (d := some 15) (by kernel_rfl) rfl (by kernel_rfl) (by kernel_rfl) (al_move (by kernel_rfl)) ?_
  refine lm_p (d := some 16) (by kernel_rfl) rfl (by kernel_rfl) (by kernel_rfl) (p_sub (by kernel_rfl) (by kernel_rfl) H) (fun x16 H => ?_)
  refine lm_p (d := some 17) (by kernel_rfl) rfl (by kernel_rfl) (by kernel_rfl) (p_lit (pl := [(0, 1), (1, 1), (2, 1), (3, 1)]) Tryd.zeroValue83 Tryd.underlying83 ⟨(by kernel_rfl), Tryd.sizeOf3, (by kernel_rfl), Tryd.sizeOf3, (by kernel_rfl), Tryd.sizeOf3, (by kernel_rfl), Tryd.sizeOf3, trivial⟩ (by kernel_rfl) (by kernel_rfl) H) (fun x17 H => ?_)
  refine lm_al (x := x0) (d := some 18) (by kernel_rfl) rfl (by kernel_rfl) (by kernel_rfl) (al_move (by kernel_rfl)) ?_
  refine lm_dc (d := some 19) (by kernel_rfl) rfl (by kernel_rfl) (by kernel_rfl) (by kernel_rfl) HA (d_call (by kernel_rfl) (by kernel_rfl) H) (fun x19 h w_1 H HA_1 => ?_)
  refine lm_fr (b := ⟨#[x0, x1, x2, x3, undef, undef, undef, undef, x0, x9, x10, x11, x2, x1, x3, x2, x16, x17, x0, x19, undef, undef, undef, undef], []⟩) (by kernel_rfl) ?_
  refine lm_d (d := some 20) (by kernel_rfl) rfl (by kernel_rfl) (by kernel_rfl) (by kernel_rfl) HA_1 (d_call (by kernel_rfl) (by kernel_rfl) H) (fun x20 h_1 w_2 H HA_2 => ?_)
  refine lm_nil ?_
  refine then_normal ?_
  refine fr_eq (b := ⟨#[x0, x1, x2, x3, undef, undef, undef, undef, x0, x9, x10, x11, x2, x1, x3, x2, x16, x17, x0, x19, x20, undef, undef, undef], []⟩) (by kernel_rfl) ?_
  refine lwp_list ?_
  refine ls_move (x := x0) (by kernel_rfl) (by kernel_rfl) ?_
  refine ls_move (x := x1) (by kernel_rfl) (by kernel_rfl) ?_
  refine ls_d (d := some 23) (by kernel_rfl) (by kernel_rfl) HA_2 (d_call (by kernel_rfl) (by kernel_rfl) H) (fun x23 h_2 w_3 H HA_3 => ?_)
  refine ls_nil ?_
  exact end0 (Tryd.results78) (by kernel_rfl) HA_3 H _ (.inl rfl)

end Go.Proofs.YtmhhjpfkipficaaDoor

end

section
/- The shallow reading of one function, and that the function does it. Written by a program. -/
set_option linter.unusedVariables false
namespace Go.Proofs.YtmhhjpfkipficaaDoor
open Go Go.HW

def screen_Screen_part_j1 (R : Value → Heap → Prop) (x0 x1 x2 x3 : Value) (h_4 : Heap) : Prop :=
  sNil x0 fun x43 =>
  sOff x43 0 fun x44 =>
  sLd h_4 x44 fun x45 =>
  sAdd .i64 x1 x2 fun x48 =>
  grid_Grid_At_c x45 x48 x3 h_4 fun x50 h_5 => 
  sNew h_5 #[.int .i32 0, .int .i64 0, .int .i64 0, .int .i64 0] 31 fun x9 h_6 => 
  sStN h_6 x9 x50 4 fun h_7 => 
  sOff x9 0 fun x51 =>
  sLd h_7 x51 fun x52 =>
  sEq x52 (.int .i32 (-1)) fun x53 =>
  sIf x53 (sNil x0 fun x55 =>
  sOff x55 0 fun x56 =>
  sLd h_7 x56 fun x57 =>
  sAdd .i64 x1 x2 fun x60 =>
  sOff x9 1 fun x62 =>
  sLdN h_7 x62 3 fun x63 =>
  sBuild #[.int .i32 0, .int .i64 0, .int .i64 0, .int .i64 0] [(1, 3, x63)] fun x64 =>
  grid_Grid_Set_c x57 x60 x3 x64 h_7 fun x65 h_8 => 
  R unit h_8) (R unit h_7)
def screen_Screen_part_S (x0 x1 x2 x3 : Value) (h : Heap) (R : Value → Heap → Prop) : Prop :=
  sNil x0 fun x11 =>
  sOff x11 0 fun x12 =>
  sLd h x12 fun x13 =>
  sSub .i64 x1 (.int .i64 1) fun x15 =>
  grid_Grid_At_c x13 x15 x3 h fun x17 h => 
  sNew h #[.int .i32 0, .int .i64 0, .int .i64 0, .int .i64 0] 31 fun x8 h_1 => 
  sStN h_1 x8 x17 4 fun h_2 => 
  sGt x1 (.int .i64 0) fun x19 =>
  sAnd x19 (fun k_1 =>
  sOff x8 0 fun x21 =>
  sLd h_2 x21 fun x22 =>
  sGt x22 (.int .i32 0) fun x23 =>
  k_1 x23) fun x24 =>
  sAndH x24 h_2 (fun k =>
  sOff x8 0 fun x26 =>
  sLd h_2 x26 fun x27 =>
  wide_Width_c x27 h_2 fun x28 h_10 => 
  sEq x28 (.int .i64 2) fun x29 =>
  k x29 h_10) fun x30 h_3 =>
  sIf x30 (sNil x0 fun x32 =>
  sOff x32 0 fun x33 =>
  sLd h_3 x33 fun x34 =>
  sSub .i64 x1 (.int .i64 1) fun x36 =>
  sOff x8 1 fun x38 =>
  sLdN h_3 x38 3 fun x39 =>
  sBuild #[.int .i32 0, .int .i64 0, .int .i64 0, .int .i64 0] [(1, 3, x39)] fun x40 =>
  grid_Grid_Set_c x34 x36 x3 x40 h_3 fun x41 h_9 => 
  screen_Screen_part_j1 R x0 x1 x2 x3 h_9) (screen_Screen_part_j1 R x0 x1 x2 x3 h_3)
set_option maxRecDepth 100000 in
theorem screen_Screen_part_runs {x0 x1 x2 x3 : Value} {h : Heap} {R : Value → Heap → Prop} (H : screen_Screen_part_S x0 x1 x2 x3 h R) : screen_Screen_part_c x0 x1 x2 x3 h R := by
  unfold screen_Screen_part_S at H
  refine runs_of (b := ⟨([x0, x1, x2, x3, undef, undef, undef, undef, undef, undef, undef, undef, undef, undef, undef, undef, undef, undef, undef, undef, undef, undef, undef, undef, undef, undef, undef, undef, undef, undef, undef, undef, undef, undef, undef, undef, undef, undef, undef, undef, undef, undef, undef, undef, undef, undef, undef, undef, undef, undef] ++ [undef, undef, undef, undef, undef, undef, undef, undef, undef, undef, undef, undef, undef, undef, undef, undef]).toArray, []⟩) Tryd.call34 Tryd.func34 rfl (by kernel_rfl) (fun w0 HA => ?_)
  refine wp_seq ?_
  refine wp_seq ?_
  refine lwp_list ?_
  refine ls_move (x := x0) (by kernel_rfl) (by kernel_rfl) ?_
  refine ls_p (d := some 11) (by kernel_rfl) (by kernel_rfl) (p_nil (by kernel_rfl) H) (fun x11 H => ?_)
  refine ls_p (d := some 12) (by kernel_rfl) (by kernel_rfl) (p_off Tryd.underlying64 rfl (fun w => ⟨_, Tryd.sizeOf54 w⟩) rfl (by kernel_rfl) H) (fun x12 H => ?_)
  refine ls_y (d := some 13) (by kernel_rfl) (by kernel_rfl) HA (y_ld Tryd.isAgg54 (by kernel_rfl) H) (fun x13 H => ?_)
  refine ls_move (x := x1) (by kernel_rfl) (by kernel_rfl) ?_
  refine ls_p (d := some 15) (by kernel_rfl) (by kernel_rfl) (p_sub (by kernel_rfl) (by kernel_rfl) H) (fun x15 H => ?_)
  refine ls_fr (b := ⟨([x0, x1, x2, x3, undef, undef, undef, undef, undef, undef, x0, x11, x12, x13, x1, x15, undef, undef, undef, undef, undef, undef, undef, undef, undef, undef, undef, undef, undef, undef, undef, undef, undef, undef, undef, undef, undef, undef, undef, undef, undef, undef, undef, undef, undef, undef, undef, undef, undef, undef] ++ [undef, undef, undef, undef, undef, undef, undef, undef, undef, undef, undef, undef, undef, undef, undef, undef]).toArray, []⟩) (by kernel_rfl) ?_
  refine ls_move (x := x3) (by kernel_rfl) (by kernel_rfl) ?_
  refine ls_d (d := some 17) (by kernel_rfl) (by kernel_rfl) HA (d_call (by kernel_rfl) (by kernel_rfl) H) (fun x17 h w H HA => ?_)
  refine ls_d (d := some 8) (by kernel_rfl) (by kernel_rfl) HA (d_alloc Tryd.zeroValue31 H) (fun x8 h_1 w_1 H HA_1 => ?_)
  refine ls_d (d := none) (by kernel_rfl) (by kernel_rfl) HA_1 (d_stn Tryd.sizeOf31 (by kernel_rfl) (by kernel_rfl) H) (fun _ h_2 w_2 H HA_2 => ?_)
  refine ls_nil ?_
  refine then_normal ?_
  refine fr_eq (b := ⟨([x0, x1, x2, x3, undef, undef, undef, undef, x8, undef, x0, x11, x12, x13, x1, x15, x3, x17, undef, undef, undef, undef, undef, undef, undef, undef, undef, undef, undef, undef, undef, undef, undef, undef, undef, undef, undef, undef, undef, undef, undef, undef, undef, undef, undef, undef, undef, undef, undef, undef] ++ [undef, undef, undef, undef, undef, undef, undef, undef, undef, undef, undef, undef, undef, undef, undef, undef]).toArray, []⟩) (by kernel_rfl) ?_
  refine wp_seq ?_
  refine lwp_list ?_
  refine ls_move (x := x1) (by kernel_rfl) (by kernel_rfl) ?_
  refine ls_p (d := some 19) (by kernel_rfl) (by kernel_rfl) (p_sGt (by kernel_rfl) (by kernel_rfl) H) (fun x19 H => ?_)
  refine ls_move (x := x19) (by kernel_rfl) (by kernel_rfl) ?_
  refine ls_and [(), (), (), ()] (fun K a w => ∃ (D : Nat → Value) (x24 : Value), a = ⟨([x0, x1, x2, x3, undef, undef, undef, undef, x8, undef, x0, x11, x12, x13, x1, x15, x3, x17, x1, x19, x19, (D 0), (D 1), (D 2), x24, undef, undef, undef, undef, undef, undef, undef, undef, undef, undef, undef, undef, undef, undef, undef, undef, undef, undef, undef, undef, undef, undef, undef, undef, undef] ++ [undef, undef, undef, undef, undef, undef, undef, undef, undef, undef, undef, undef, undef, undef, undef, undef]).toArray, []⟩ ∧ At w0 w h_2 ∧ K x24) H (fun hb_1 H => ?_) (fun hb_1 H => ?_) ?_
  · refine ls_p (d := some 21) (by kernel_rfl) (by rw [hb_1]; kernel_rfl) (p_off Tryd.underlying31 rfl (fun w => ⟨_, Tryd.sizeOf21 w⟩) rfl (by kernel_rfl) H) (fun x21 H => ?_)
    refine ls_y (d := some 22) (by kernel_rfl) (by rw [hb_1]; kernel_rfl) HA_2 (y_ld Tryd.isAgg21 (by kernel_rfl) H) (fun x22 H => ?_)
    refine ls_p (d := some 23) (by kernel_rfl) (by rw [hb_1]; kernel_rfl) (p_sGt (by kernel_rfl) (by kernel_rfl) H) (fun x23 H => ?_)
    refine ls_fr (b := ⟨([x0, x1, x2, x3, undef, undef, undef, undef, x8, undef, x0, x11, x12, x13, x1, x15, x3, x17, x1, x19, x19, x21, x22, x23, undef, undef, undef, undef, undef, undef, undef, undef, undef, undef, undef, undef, undef, undef, undef, undef, undef, undef, undef, undef, undef, undef, undef, undef, undef, undef] ++ [undef, undef, undef, undef, undef, undef, undef, undef, undef, undef, undef, undef, undef, undef, undef, undef]).toArray, []⟩) (by kernel_rfl) ?_
    refine ls_pick_t (x := x23) (by kernel_rfl) (by rw [hb_1]; kernel_rfl) (by kernel_rfl) ?_
    refine ls_nil ?_
    refine then_normal ?_
    exact ⟨(fun i => ([x21, x22, x23]).getD i undef), x23, by kernel_rfl, HA_2, H⟩
  · refine ls_skip (d := some 21) (by kernel_rfl) (by rw [hb_1]; kernel_rfl) ?_
    refine ls_skip (d := some 22) (by kernel_rfl) (by rw [hb_1]; kernel_rfl) ?_
    refine ls_skip (d := some 23) (by kernel_rfl) (by rw [hb_1]; kernel_rfl) ?_
    refine ls_fr (b := ⟨([x0, x1, x2, x3, undef, undef, undef, undef, x8, undef, x0, x11, x12, x13, x1, x15, x3, x17, x1, x19, x19, undef, undef, undef, undef, undef, undef, undef, undef, undef, undef, undef, undef, undef, undef, undef, undef, undef, undef, undef, undef, undef, undef, undef, undef, undef, undef, undef, undef, undef] ++ [undef, undef, undef, undef, undef, undef, undef, undef, undef, undef, undef, undef, undef, undef, undef, undef]).toArray, []⟩) (by kernel_rfl) ?_
    refine ls_pick_f (y := (.bool false)) (by kernel_rfl) (by rw [hb_1]; kernel_rfl) (by kernel_rfl) ?_
    refine ls_nil ?_
    refine then_normal ?_
    exact ⟨(fun i => ([undef, undef, undef]).getD i undef), (.bool false), by kernel_rfl, HA_2, H⟩
  · rintro _ w_3 ⟨D, x24, rfl, HA_3, H⟩
    refine ls_move (x := x24) (by kernel_rfl) (by kernel_rfl) ?_
    refine ls_andh [(), (), (), (), ()] (fun K a w => ∃ (D_1 : Nat → Value) (x30 : Value) (h_3 : Heap), a = ⟨([x0, x1, x2, x3, undef, undef, undef, undef, x8, undef, x0, x11, x12, x13, x1, x15, x3, x17, x1, x19, x19, (D 0), (D 1), (D 2), x24, x24, (D_1 0), (D_1 1), (D_1 2), (D_1 3), x30, undef, undef, undef, undef, undef, undef, undef, undef, undef, undef, undef, undef, undef, undef, undef, undef, undef, undef, undef] ++ [undef, undef, undef, undef, undef, undef, undef, undef, undef, undef, undef, undef, undef, undef, undef, undef]).toArray, []⟩ ∧ At w0 w h_3 ∧ K x30 h_3) H (fun hb H => ?_) (fun hb H => ?_) ?_
    · refine ls_p (d := some 26) (by kernel_rfl) (by rw [hb]; kernel_rfl) (p_off Tryd.underlying31 rfl (fun w => ⟨_, Tryd.sizeOf21 w⟩) rfl (by kernel_rfl) H) (fun x26 H => ?_)
      refine ls_y (d := some 27) (by kernel_rfl) (by rw [hb]; kernel_rfl) HA_3 (y_ld Tryd.isAgg21 (by kernel_rfl) H) (fun x27 H => ?_)
      refine ls_d (d := some 28) (by kernel_rfl) (by rw [hb]; kernel_rfl) HA_3 (d_call (by kernel_rfl) (by kernel_rfl) H) (fun x28 h_10 w_13 H HA_13 => ?_)
      refine ls_p (d := some 29) (by kernel_rfl) (by rw [hb]; kernel_rfl) (p_sEq (by kernel_rfl) (by kernel_rfl) H) (fun x29 H => ?_)
      refine ls_pick_t (x := x29) (by kernel_rfl) (by rw [hb]; kernel_rfl) (by kernel_rfl) ?_
      refine ls_nil ?_
      refine then_normal ?_
      exact ⟨(fun i => ([x26, x27, x28, x29]).getD i undef), x29, h_10, by kernel_rfl, HA_13, H⟩
    · refine ls_skip (d := some 26) (by kernel_rfl) (by rw [hb]; kernel_rfl) ?_
      refine ls_skip (d := some 27) (by kernel_rfl) (by rw [hb]; kernel_rfl) ?_
      refine ls_skip (d := some 28) (by kernel_rfl) (by rw [hb]; kernel_rfl) ?_
      refine ls_skip (d := some 29) (by kernel_rfl) (by rw [hb]; kernel_rfl) ?_
      refine ls_pick_f (y := (.bool false)) (by kernel_rfl) (by rw [hb]; kernel_rfl) (by kernel_rfl) ?_
      refine ls_nil ?_
      refine then_normal ?_
      exact ⟨(fun i => ([undef, undef, undef, undef]).getD i undef), (.bool false), h_2, by kernel_rfl, HA_3, H⟩
    · rintro _ w_4 ⟨D_1, x30, h_3, rfl, HA_4, H⟩
      refine ls_nil ?_
      refine then_normal ?_
      refine fr_eq (b := ⟨([x0, x1, x2, x3, undef, undef, undef, undef, x8, undef, x0, x11, x12, x13, x1, x15, x3, x17, x1, x19, x19, (D 0), (D 1), (D 2), x24, x24, (D_1 0), (D_1 1), (D_1 2), (D_1 3), x30, undef, undef, undef, undef, undef, undef, undef, undef, undef, undef, undef, undef, undef, undef, undef, undef, undef, undef, undef] ++ [undef, undef, undef, undef, undef, undef, undef, undef, undef, undef, undef, undef, undef, undef, undef, undef]).toArray, []⟩) (by kernel_rfl) ?_
      refine wp_join (fun a w => ∃ (D_2 : Nat → Value) (h_4 : Heap), a = ⟨([x0, x1, x2, x3, undef, undef, undef, undef, x8, undef, x0, x11, x12, x13, x1, x15, x3, x17, x1, x19, x19, (D 0), (D 1), (D 2), x24, x24, (D_1 0), (D_1 1), (D_1 2), (D_1 3), x30, (D_2 0), (D_2 1), (D_2 2), (D_2 3), (D_2 4), (D_2 5), (D_2 6), (D_2 7), (D_2 8), (D_2 9), (D_2 10), undef, undef, undef, undef, undef, undef, undef, undef] ++ [undef, undef, undef, undef, undef, undef, undef, undef, undef, undef, undef, undef, undef, undef, undef, undef]).toArray, []⟩ ∧ At w0 w h_4 ∧ screen_Screen_part_j1 R x0 x1 x2 x3 h_4) ?_ ?_
      · refine wp_if rfl H (fun H => ?_) (fun H => ?_)
        · refine lwp_mx (Nat.testBit 1024) (Nat.testBit 0) (Nat.testBit 759) [0, 1, 3, 7, 0, 16, 0, 0, 128, 384, 1023] (Nat.testBit 0) (fun h' => h' = h_3) [0, 1, 2, 3, 4, 5, 6, 7, 8, 9, 10] (by kernel_rfl) (by kernel_rfl) (by kernel_rfl) (by kernel_rfl) HA_4 rfl ?_
          intro w_11 HA_11
          refine lm_al (x := x0) (d := some 31) (by kernel_rfl) rfl (by kernel_rfl) (by kernel_rfl) (al_move (by kernel_rfl)) ?_
          refine lm_p (d := some 32) (by kernel_rfl) rfl (by kernel_rfl) (by kernel_rfl) (p_nil (by kernel_rfl) H) (fun x32 H => ?_)
          refine lm_p (d := some 33) (by kernel_rfl) rfl (by kernel_rfl) (by kernel_rfl) (p_off Tryd.underlying64 rfl (fun w => ⟨_, Tryd.sizeOf54 w⟩) rfl (by kernel_rfl) H) (fun x33 H => ?_)
          refine lm_f (d := some 34) (by kernel_rfl) rfl (by kernel_rfl) (by kernel_rfl) (by kernel_rfl) (by kernel_rfl) (of_eq (y_ld Tryd.isAgg54 (by kernel_rfl) H)) (fun x34 H => ?_)
          refine lm_al (x := x1) (d := some 35) (by kernel_rfl) rfl (by kernel_rfl) (by kernel_rfl) (al_move (by kernel_rfl)) ?_
          refine lm_p (d := some 36) (by kernel_rfl) rfl (by kernel_rfl) (by kernel_rfl) (p_sub (by kernel_rfl) (by kernel_rfl) H) (fun x36 H => ?_)
          refine lm_fr (b := ⟨([x0, x1, x2, x3, undef, undef, undef, undef, x8, undef, x0, x11, x12, x13, x1, x15, x3, x17, x1, x19, x19, (D 0), (D 1), (D 2), x24, x24, (D_1 0), (D_1 1), (D_1 2), (D_1 3), x30, x0, x32, x33, x34, x1, x36, undef, undef, undef, undef, undef, undef, undef, undef, undef, undef, undef, undef, undef] ++ [undef, undef, undef, undef, undef, undef, undef, undef, undef, undef, undef, undef, undef, undef, undef, undef]).toArray, []⟩) (by kernel_rfl) ?_
          refine lm_al (x := x3) (d := some 37) (by kernel_rfl) rfl (by kernel_rfl) (by kernel_rfl) (al_move (by kernel_rfl)) ?_
          refine lm_p (d := some 38) (by kernel_rfl) rfl (by kernel_rfl) (by kernel_rfl) (p_off Tryd.underlying31 rfl (fun w => ⟨_, Tryd.sizeOf29 w⟩) rfl (by kernel_rfl) H) (fun x38 H => ?_)
          refine lm_f (d := some 39) (by kernel_rfl) rfl (by kernel_rfl) (by kernel_rfl) (by kernel_rfl) (by kernel_rfl) (of_eq (y_ldn Tryd.isAgg29 Tryd.sizeOf29 (by kernel_rfl) H)) (fun x39 H => ?_)
          refine lm_p (d := some 40) (by kernel_rfl) rfl (by kernel_rfl) (by kernel_rfl) (p_lit (pl := [(0, 1), (1, 3)]) Tryd.zeroValue31 Tryd.underlying31 ⟨(by kernel_rfl), Tryd.sizeOf21, (by kernel_rfl), Tryd.sizeOf29, trivial⟩ (by kernel_rfl) (by kernel_rfl) H) (fun x40 H => ?_)
          refine lm_d (d := some 41) (by kernel_rfl) rfl (by kernel_rfl) (by kernel_rfl) (by kernel_rfl) HA_11 (d_call (by kernel_rfl) (by kernel_rfl) H) (fun x41 h_9 w_12 H HA_12 => ?_)
          refine lm_nil ?_
          exact ⟨(fun i => ([x0, x32, x33, x34, x1, x36, x3, x38, x39, x40, x41]).getD i undef), h_9, by kernel_rfl, HA_12, H⟩
        · refine wp_skip ?_
          exact ⟨(fun i => ([undef, undef, undef, undef, undef, undef, undef, undef, undef, undef, undef]).getD i undef), h_3, by kernel_rfl, HA_4, H⟩
      · rintro _ w_5 ⟨D_2, h_4, rfl, HA_5, H⟩
        unfold screen_Screen_part_j1 at H
        refine then_normal ?_
        refine fr_eq (b := ⟨([x0, x1, x2, x3, undef, undef, undef, undef, x8, undef, x0, x11, x12, x13, x1, x15, x3, x17, x1, x19, x19, (D 0), (D 1), (D 2), x24, x24, (D_1 0), (D_1 1), (D_1 2), (D_1 3), x30, (D_2 0), (D_2 1), (D_2 2), (D_2 3), (D_2 4), (D_2 5), (D_2 6), (D_2 7), (D_2 8), (D_2 9), (D_2 10), undef, undef, undef, undef, undef, undef, undef, undef] ++ [undef, undef, undef, undef, undef, undef, undef, undef, undef, undef, undef, undef, undef, undef, undef, undef]).toArray, []⟩) (by kernel_rfl) ?_
        refine wp_seq ?_
        refine lwp_list ?_
        refine ls_move (x := x0) (by kernel_rfl) (by kernel_rfl) ?_
        refine ls_p (d := some 43) (by kernel_rfl) (by kernel_rfl) (p_nil (by kernel_rfl) H) (fun x43 H => ?_)
        refine ls_p (d := some 44) (by kernel_rfl) (by kernel_rfl) (p_off Tryd.underlying64 rfl (fun w => ⟨_, Tryd.sizeOf54 w⟩) rfl (by kernel_rfl) H) (fun x44 H => ?_)
        refine ls_y (d := some 45) (by kernel_rfl) (by kernel_rfl) HA_5 (y_ld Tryd.isAgg54 (by kernel_rfl) H) (fun x45 H => ?_)
        refine ls_move (x := x1) (by kernel_rfl) (by kernel_rfl) ?_
        refine ls_move (x := x2) (by kernel_rfl) (by kernel_rfl) ?_
        refine ls_fr (b := ⟨([x0, x1, x2, x3, undef, undef, undef, undef, x8, undef, x0, x11, x12, x13, x1, x15, x3, x17, x1, x19, x19, (D 0), (D 1), (D 2), x24, x24, (D_1 0), (D_1 1), (D_1 2), (D_1 3), x30, (D_2 0), (D_2 1), (D_2 2), (D_2 3), (D_2 4), (D_2 5), (D_2 6), (D_2 7), (D_2 8), (D_2 9), (D_2 10), x0, x43, x44, x45, x1, x2, undef, undef] ++ [undef, undef, undef, undef, undef, undef, undef, undef, undef, undef, undef, undef, undef, undef, undef, undef]).toArray, []⟩) (by kernel_rfl) ?_
        refine ls_p (d := some 48) (by kernel_rfl) (by kernel_rfl) (p_add (by kernel_rfl) (by kernel_rfl) H) (fun x48 H => ?_)
        refine ls_move (x := x3) (by kernel_rfl) (by kernel_rfl) ?_
        refine ls_d (d := some 50) (by kernel_rfl) (by kernel_rfl) HA_5 (d_call (by kernel_rfl) (by kernel_rfl) H) (fun x50 h_5 w_6 H HA_6 => ?_)
        refine ls_d (d := some 9) (by kernel_rfl) (by kernel_rfl) HA_6 (d_alloc Tryd.zeroValue31 H) (fun x9 h_6 w_7 H HA_7 => ?_)
        refine ls_d (d := none) (by kernel_rfl) (by kernel_rfl) HA_7 (d_stn Tryd.sizeOf31 (by kernel_rfl) (by kernel_rfl) H) (fun _ h_7 w_8 H HA_8 => ?_)
        refine ls_nil ?_
        refine then_normal ?_
        refine fr_eq (b := ⟨([x0, x1, x2, x3, undef, undef, undef, undef, x8, x9, x0, x11, x12, x13, x1, x15, x3, x17, x1, x19, x19, (D 0), (D 1), (D 2), x24, x24, (D_1 0), (D_1 1), (D_1 2), (D_1 3), x30, (D_2 0), (D_2 1), (D_2 2), (D_2 3), (D_2 4), (D_2 5), (D_2 6), (D_2 7), (D_2 8), (D_2 9), (D_2 10), x0, x43, x44, x45, x1, x2, x48, x3] ++ [x50, undef, undef, undef, undef, undef, undef, undef, undef, undef, undef, undef, undef, undef, undef, undef]).toArray, []⟩) (by kernel_rfl) ?_
        refine wp_seq ?_
        refine lwp_list ?_
        refine ls_p (d := some 51) (by kernel_rfl) (by kernel_rfl) (p_off Tryd.underlying31 rfl (fun w => ⟨_, Tryd.sizeOf21 w⟩) rfl (by kernel_rfl) H) (fun x51 H => ?_)
        refine ls_y (d := some 52) (by kernel_rfl) (by kernel_rfl) HA_8 (y_ld Tryd.isAgg21 (by kernel_rfl) H) (fun x52 H => ?_)
        refine ls_p (d := some 53) (by kernel_rfl) (by kernel_rfl) (p_sEq (by kernel_rfl) (by kernel_rfl) H) (fun x53 H => ?_)
        refine ls_nil ?_
        refine then_normal ?_
        refine fr_eq (b := ⟨([x0, x1, x2, x3, undef, undef, undef, undef, x8, x9, x0, x11, x12, x13, x1, x15, x3, x17, x1, x19, x19, (D 0), (D 1), (D 2), x24, x24, (D_1 0), (D_1 1), (D_1 2), (D_1 3), x30, (D_2 0), (D_2 1), (D_2 2), (D_2 3), (D_2 4), (D_2 5), (D_2 6), (D_2 7), (D_2 8), (D_2 9), (D_2 10), x0, x43, x44, x45, x1, x2, x48, x3] ++ [x50, x51, x52, x53, undef, undef, undef, undef, undef, undef, undef, undef, undef, undef, undef, undef]).toArray, []⟩) (by kernel_rfl) ?_
        refine wp_if rfl H (fun H => ?_) (fun H => ?_)
        · refine lwp_mx (Nat.testBit 2048) (Nat.testBit 0) (Nat.testBit 1527) [0, 1, 3, 7, 0, 0, 48, 0, 0, 256, 768, 2047] (Nat.testBit 0) (fun h' => h' = h_7) [0, 1, 2, 3, 4, 5, 6, 7, 8, 9, 10, 11] (by kernel_rfl) (by kernel_rfl) (by kernel_rfl) (by kernel_rfl) HA_8 rfl ?_
          intro w_9 HA_9
          refine lm_al (x := x0) (d := some 54) (by kernel_rfl) rfl (by kernel_rfl) (by kernel_rfl) (al_move (by kernel_rfl)) ?_
          refine lm_p (d := some 55) (by kernel_rfl) rfl (by kernel_rfl) (by kernel_rfl) (p_nil (by kernel_rfl) H) (fun x55 H => ?_)
          refine lm_p (d := some 56) (by kernel_rfl) rfl (by kernel_rfl) (by kernel_rfl) (p_off Tryd.underlying64 rfl (fun w => ⟨_, Tryd.sizeOf54 w⟩) rfl (by kernel_rfl) H) (fun x56 H => ?_)
          refine lm_f (d := some 57) (by kernel_rfl) rfl (by kernel_rfl) (by kernel_rfl) (by kernel_rfl) (by kernel_rfl) (of_eq (y_ld Tryd.isAgg54 (by kernel_rfl) H)) (fun x57 H => ?_)
          refine lm_al (x := x1) (d := some 58) (by kernel_rfl) rfl (by kernel_rfl) (by kernel_rfl) (al_move (by kernel_rfl)) ?_
          refine lm_al (x := x2) (d := some 59) (by kernel_rfl) rfl (by kernel_rfl) (by kernel_rfl) (al_move (by kernel_rfl)) ?_
          refine lm_fr (b := ⟨([x0, x1, x2, x3, undef, undef, undef, undef, x8, x9, x0, x11, x12, x13, x1, x15, x3, x17, x1, x19, x19, (D 0), (D 1), (D 2), x24, x24, (D_1 0), (D_1 1), (D_1 2), (D_1 3), x30, (D_2 0), (D_2 1), (D_2 2), (D_2 3), (D_2 4), (D_2 5), (D_2 6), (D_2 7), (D_2 8), (D_2 9), (D_2 10), x0, x43, x44, x45, x1, x2, x48, x3] ++ [x50, x51, x52, x53, x0, x55, x56, x57, x1, x2, undef, undef, undef, undef, undef, undef]).toArray, []⟩) (by kernel_rfl) ?_
          refine lm_p (d := some 60) (by kernel_rfl) rfl (by kernel_rfl) (by kernel_rfl) (p_add (by kernel_rfl) (by kernel_rfl) H) (fun x60 H => ?_)
          refine lm_al (x := x3) (d := some 61) (by kernel_rfl) rfl (by kernel_rfl) (by kernel_rfl) (al_move (by kernel_rfl)) ?_
          refine lm_p (d := some 62) (by kernel_rfl) rfl (by kernel_rfl) (by kernel_rfl) (p_off Tryd.underlying31 rfl (fun w => ⟨_, Tryd.sizeOf29 w⟩) rfl (by kernel_rfl) H) (fun x62 H => ?_)
          refine lm_f (d := some 63) (by kernel_rfl) rfl (by kernel_rfl) (by kernel_rfl) (by kernel_rfl) (by kernel_rfl) (of_eq (y_ldn Tryd.isAgg29 Tryd.sizeOf29 (by kernel_rfl) H)) (fun x63 H => ?_)
          refine lm_p (d := some 64) (by kernel_rfl) rfl (by kernel_rfl) (by kernel_rfl) (p_lit (pl := [(0, 1), (1, 3)]) Tryd.zeroValue31 Tryd.underlying31 ⟨(by kernel_rfl), Tryd.sizeOf21, (by kernel_rfl), Tryd.sizeOf29, trivial⟩ (by kernel_rfl) (by kernel_rfl) H) (fun x64 H => ?_)
          refine lm_d (d := some 65) (by kernel_rfl) rfl (by kernel_rfl) (by kernel_rfl) (by kernel_rfl) HA_9 (d_call (by kernel_rfl) (by kernel_rfl) H) (fun x65 h_8 w_10 H HA_10 => ?_)
          refine lm_nil ?_
          exact end0 (Tryd.results34) (by kernel_rfl) HA_10 H _ (.inl rfl)
        · refine wp_skip ?_
          exact end0 (Tryd.results34) (by kernel_rfl) HA_8 H _ (.inl rfl)

end Go.Proofs.YtmhhjpfkipficaaDoor

end

section
/- Screens: rows are mended. -/
set_option linter.unusedSimpArgs false
set_option linter.unusedVariables false
namespace Go.Proofs.YtmhhjpfkipficaaDoor
open Go Go.HW

def two (r : Int) : Bool := wt r == 2
theorem two_iff {r : Int} : two r = true ↔ wt r = 2 := by simp [two]
theorem wt_low {r : Int} (h : r < 32) : wt r = -1 := by unfold wt outR; rw [if_pos (by simp; omega)]
theorem two_pos {r : Int} : (decide (r > 0) && (wt r == 2)) = two r := by
  unfold two
  by_cases h : r > 0
  · simp [h]
  · have := wt_low (r := r) (by omega)
    simp [h, this]
def Ce.clr (c : Ce) : Ce := { c with r := 0 }
def wholeR (C : Cel) (w y : Int) : Prop := ∀ x, 0 ≤ x → x < w → (wt (C x y).r = 2 → x + 1 < w ∧ (C (x + 1) y).r = -1) ∧ ((C x y).r = -1 → 0 < x ∧ wt (C (x - 1) y).r = 2)
def wholeC (C : Cel) (w g : Int) : Prop := ∀ y, 0 ≤ y → y < g → wholeR C w y
structure MendTo (C D : Cel) (y i : Int) : Prop where
  other : ∀ a b, b ≠ y → D a b = C a b
  ahead : ∀ a, i ≤ a → D a y = C a y
  same : ∀ a, D a y = C a y ∨ D a y = (C a y).clr
  zero : ∀ a, (C a y).r = 0 → D a y = C a y
  whole : ∀ x, 0 ≤ x → x < i → (wt (D x y).r = 2 → x + 1 < i ∧ (D (x + 1) y).r = -1) ∧ ((D x y).r = -1 → 0 < x ∧ wt (D (x - 1) y).r = 2)
/-- What a mended row is. -/
structure Mended (C D : Cel) (w y : Int) : Prop where
  other : ∀ a b, b ≠ y → D a b = C a b
  same : ∀ a, D a y = C a y ∨ D a y = (C a y).clr
  zero : ∀ a, (C a y).r = 0 → D a y = C a y
  whole : wholeR D w y
theorem clr_eq {c : Ce} (h : c.r = 0) : c.clr = c := by unfold Ce.clr; cases c; simp only at h; subst h; rfl
theorem mend_pair {C D : Cel} {y i : Int} (m : MendTo C D y i) (h0 : 0 ≤ i) (h1 : wt (C i y).r = 2) (h2 : (C (i + 1) y).r = -1) : MendTo C D y (i + 2) := by
  refine ⟨m.other, fun a ha => m.ahead a (by omega), m.same, m.zero, fun x hx hx2 => ?_⟩
  have e1 := m.ahead i (by omega)
  have e2 := m.ahead (i + 1) (by omega)
  by_cases hl : x < i
  · have := m.whole x hx hl
    exact ⟨fun h => ⟨by have := (this.1 h).1; omega, (this.1 h).2⟩, this.2⟩
  · by_cases he : x = i
    · subst he
      rw [e1, e2]
      exact ⟨fun _ => ⟨by omega, h2⟩, fun h => by rw [h] at h1; rw [wt_low (by omega)] at h1; omega⟩
    · have : x = i + 1 := by omega
      subst this
      rw [e2, show i + 1 - 1 = i by omega, e1]
      exact ⟨fun h => by rw [h2, wt_low (by omega)] at h; omega, fun _ => ⟨by omega, h1⟩⟩
theorem mend_keep {C D : Cel} {y i : Int} (m : MendTo C D y i) (h0 : 0 ≤ i) (h1 : ¬ wt (C i y).r = 2) (h2 : ¬ (C i y).r = -1) : MendTo C D y (i + 1) := by
  refine ⟨m.other, fun a ha => m.ahead a (by omega), m.same, m.zero, fun x hx hx2 => ?_⟩
  have e1 := m.ahead i (by omega)
  by_cases hl : x < i
  · have := m.whole x hx hl
    exact ⟨fun h => ⟨by have := (this.1 h).1; omega, (this.1 h).2⟩, this.2⟩
  · have : x = i := by omega
    subst this
    rw [e1]
    exact ⟨fun h => (h1 h).elim, fun h => (h2 h).elim⟩
theorem mend_clear {C D : Cel} {w g y i : Int} (m : MendTo C D y i) (h0 : 0 ≤ i ∧ i < w) (hy : 0 ≤ y ∧ y < g) : MendTo C (setF D w g i y (C i y).clr) y (i + 1) := by
  have hin : inG w g i y = true := inG_iff.2 ⟨h0, hy⟩
  have ne : ∀ a b, ¬(a = i ∧ b = y) → setF D w g i y (C i y).clr a b = D a b := fun a b h => by unfold setF; rw [if_neg (fun x => h x.2)]
  have eq : setF D w g i y (C i y).clr i y = (C i y).clr := by unfold setF; rw [if_pos ⟨hin, rfl, rfl⟩]
  refine ⟨fun a b hb => by rw [ne _ _ (fun h => hb h.2)]; exact m.other a b hb, fun a ha => by rw [ne _ _ (by omega)]; exact m.ahead a (by omega), fun a => ?_, fun a ha => ?_, fun x hx hx2 => ?_⟩
  · by_cases h : a = i
    · subst h; rw [eq]; exact .inr rfl
    · rw [ne _ _ (fun x => h x.1)]; exact m.same a
  · by_cases h : a = i
    · subst h; rw [eq]; exact clr_eq ha
    · rw [ne _ _ (fun x => h x.1)]; exact m.zero a ha
  · by_cases hl : x < i
    · have t := m.whole x hx hl
      rw [ne _ _ (by omega), ne (x - 1) _ (by omega)]
      refine ⟨fun h => ?_, t.2⟩
      have t1 := (t.1 h).1
      rw [ne _ _ (by omega)]
      exact ⟨by omega, (t.1 h).2⟩
    · have : x = i := by omega
      subst this
      rw [eq]
      refine ⟨fun h => ?_, fun h => ?_⟩
      · rw [show (C x y).clr.r = 0 from rfl, wt_low (by omega)] at h; omega
      · rw [show (C x y).clr.r = 0 from rfl] at h; omega
theorem mend_start (C : Cel) (y : Int) : MendTo C C y 0 := ⟨fun _ _ _ => rfl, fun _ _ => rfl, fun _ => .inl rfl, fun _ _ => rfl, fun x hx h => by omega⟩
theorem mend_end {C D : Cel} {y w : Int} (m : MendTo C D y w) : Mended C D w y := ⟨m.other, m.same, m.zero, fun x hx hw => m.whole x hx hw⟩
/-- A part of an element is read. -/
theorem part {α : Type} {enc : α → List Value} {sz i n j : Nat} {h : Heap} {v : Value} {l : List α} {x : α} (ys rest : List Value) {K : Value → Prop} (q : Seq enc sz h v l) (hj : l[j]? = some x) (hp : (enc x).drop i = ys ++ rest) (hn : ys.length = n) : sOff (eltP v j sz) i (fun p => sLdN h p n K) = K (.agg ys.toArray) :=
  have hlt := (List.getElem?_eq_some_iff.1 hj).1
  by
  obtain ⟨a, m, c, rfl, hn', hm, h2 | ⟨b, o, rfl, hb, hc⟩⟩ := q
  · omega
  · show sOff (ptr b (o + j * sz)) i _ = _
    rw [ev_off]
    have hl : h.lay b (o + j * sz + i) ys := fun k u hu => by
      have := hc j x hj (i + k) u (by rw [← List.getElem?_drop, hp, List.getElem?_append_left (List.getElem?_eq_some_iff.1 hu).1]; exact hu)
      rwa [← Nat.add_assoc] at this
    rw [hl.ldn hn]
theorem rowL_get {C : Cel} {w y : Int} {i : Nat} (h : (i : Int) < w) : (rowL C w y)[i]? = some (C i y) := by
  unfold rowL
  rw [List.getElem?_map, List.getElem?_range (by omega)]; rfl

section
variable {h0 h : Heap} {F : List HP} {R : Value → Heap → Prop} {k kg : Nat} {m : Sc} {C D : Cel} {off : List (List Ce)} {b2 b3 b4 : Nat} {v : Value} {y : Int}
/-- What the closure sees. -/
abbrev Mn (k : Nat) (m : Sc) (D C : Cel) (off : List (List Ce)) (b2 b3 b4 : Nat) (v : Value) (y : Int) (F : List HP) : List HP := Blk b4 #[v] 32 :: Sl encCe 4 v (rowL C m.w y) :: Blk b3 #[.int .i64 y] 3 :: Blk b2 #[ptr k 0] 23 :: Scr k m D off :: F
theorem Scr_set {i y : Int} {c : Ce} (hi : i64 i) (hy : i64 y) (z : HW.Sep h0 (Scr k m C off :: F) h) {K : Value → Heap → Prop} {kg : Nat} (f0 : ∀ {K : Value → Prop}, sLd h (ptr k 0) K = K (ptr kg 0)) (H : ∀ h', HW.Sep h0 (Scr k m (setF C m.w m.g i y c) off :: F) h' → K (.bool (inG m.w m.g i y)) h') : grid_Grid_Set_c (ptr kg 0) (.int .i64 i) (.int .i64 y) (.agg c.a) h K := by
  obtain ⟨kg', ov, rs, e, es, so⟩ := Sopen z
  have f1 : ∀ {K : Value → Prop}, sLd h (ptr k 0) K = K (ptr kg' 0) := ldL so.has rfl
  have ek : kg' = kg := by
    have h1 : ∀ {K : Value → Prop}, K (ptr kg 0) = K (ptr kg' 0) := f0.symm.trans f1
    have h2 := (h1 (K := fun v => v = ptr kg 0)).symm
    have : ptr kg' 0 = ptr kg 0 := by
      have := h2.mpr rfl
      exact this
    cases this; rfl
  subst ek
  exact gset_spec hi hy so.b1 (fun h' s' => H h' (Sshut e es s'.b1))
theorem mend1_spec {i : Nat} (s : HW.Sep h0 (Mn k m D C off b2 b3 b4 v y F) h) (hi : (i : Int) < m.w) (hy : 0 ≤ y ∧ y < m.g) (H : ∀ h', HW.Sep h0 (Mn k m (setF D m.w m.g i y (C i y).clr) C off b2 b3 b4 v y F) h' → R unit h') : screen_Screen_mend_1_c (.int .i64 i) (ptr b2 0) (ptr b3 0) (ptr b4 0) h R := by
  apply screen_Screen_mend_1_runs
  unfold screen_Screen_mend_1_S
  have f2 : ∀ {K : Value → Prop}, sLd h (ptr b2 0) K = K (ptr k 0) := s.b3.ld rfl
  have f3 : ∀ {K : Value → Prop}, sLd h (ptr b3 0) K = K (.int .i64 y) := s.b2.ld rfl
  have f4 : ∀ {K : Value → Prop}, sLd h (ptr b4 0) K = K v := s.ld rfl
  have sg := Ssz s.b4
  obtain ⟨kg, f0, -⟩ := mg s.b4
  simp only [f2, f3, f4, ev_nil, ev_off, Nat.zero_add, f0]
  have q := s.b1.seq
  rw [q.elt (by rw [rowL_len]; omega)]
  rw [part (i := 1) (n := 3) [.int .i64 (C i y).f, .int .i64 (C i y).b, .int .i64 (C i y).g] [] q (rowL_get hi) rfl rfl]
  refine build_intro (cs := (C i y).clr.a) ⟨rfl, Nat.le_of_ble_eq_true rfl, rfl⟩ ?_
  refine Scr_set (by unfold i64; omega) (by unfold i64; omega) s.b4 f0 (fun h' s' => H h' ?_)
  exact s'.p4
theorem mend_spec (hG : G h0) (z : HW.Sep h0 (Scr k m C off :: F) h) (hy : 0 ≤ y ∧ y < m.g) (H : ∀ D h', Mended C D m.w y → HW.Sep h0 (Scr k m D off :: F) h' → R unit h') : screen_Screen_mend_c (ptr k 0) (.int .i64 y) h R := by
  apply screen_Screen_mend_runs
  unfold screen_Screen_mend_S
  have sz := Ssz z
  refine z.box (c := #[ptr k 0]) rfl (fun b2 h1 s1 => ?_)
  refine s1.box (c := #[.int .i64 y]) rfl (fun b3 h2 s2 => ?_)
  have hj : ∀ b4 v h', HW.Sep h0 (Mn k m C C off b2 b3 b4 v y F) h' → screen_Screen_mend_j1 R (ptr b2 0) (ptr b3 0) (ptr b4 0) h' := by
    intro b4 v h3 s3
    unfold screen_Screen_mend_j1
    refine ⟨fun t h' => ∃ (i : Nat) (D : Cel), (i : Int) ≤ m.w ∧ t = .int .i64 i ∧ MendTo C D y i ∧ HW.Sep h0 (Mn k m D C off b2 b3 b4 v y F) h', fun t _ => match t with | .int _ i => (m.w - i).toNat | _ => 0, ⟨0, C, by omega, rfl, mend_start C y, s3⟩, ?_⟩
    rintro _ h4 ⟨i, D, hi, rfl, mt, s4⟩
    simp only []
    unfold screen_Screen_mend_l2
    have f2 : ∀ {h' : Heap}, Ext h4 h' → ∀ {K : Value → Prop}, sLd h' (ptr b2 0) K = K (ptr k 0) := fun e => (s4.ext' e).b3.ld rfl
    have f4 : ∀ {h' : Heap}, Ext h4 h' → ∀ {K : Value → Prop}, sLd h' (ptr b4 0) K = K v := fun e => (s4.ext' e).ld rfl
    have r1 : ∀ {h' : Heap}, Ext h4 h' → ∀ {K : Value → Prop}, sLd h' (ptr k 1) K = K (.int .i64 m.w) := fun e => (rd (s4.ext' e).b4).r1
    have qq : ∀ {h' : Heap}, Ext h4 h' → Seq encCe 4 h' v (rowL C m.w y) := fun e => (s4.ext' e).b1.seq
    have e4 := Ext.refl h4
    rw [f2 e4, ev_nil, ev_off, Nat.zero_add, r1 e4, ev_lt, ev_if]
    by_cases hlt : (i : Int) < m.w
    · rw [if_pos (decide_eq_true hlt), f4 e4, (qq e4).elt (by rw [rowL_len]; omega), (qq e4).eltld (rowL_get hlt) rfl, ev_gt]
      refine and_ext (y := wt (C i y).r == 2) (fun _ K' HK => ?_) (fun h5 e5 => ?_)
      · rw [f4 e4, (qq e4).elt (by rw [rowL_len]; omega), (qq e4).eltld (rowL_get hlt) rfl]
        refine width_spec (hG.ext s4.ext) (fun h5 e5 => ?_)
        rw [ev_eq]
        exact HK h5 e5
      rw [two_pos]
      have s5 := s4.ext' e5
      have hj3 : ∀ (j : Nat) (D' : Cel) (h' : Heap), i ≤ j → (j : Int) + 1 ≤ m.w → MendTo C D' y (j + 1 : Nat) → HW.Sep h0 (Mn k m D' C off b2 b3 b4 v y F) h' → screen_Screen_mend_j3 (fun x6' h' => (∃ (i : Nat) (D : Cel), (i : Int) ≤ m.w ∧ x6' = .int .i64 i ∧ MendTo C D y i ∧ HW.Sep h0 (Mn k m D C off b2 b3 b4 v y F) h') ∧ (match x6' with | .int _ i => (m.w - i).toNat | _ => 0) < (m.w - i).toNat) (.int .i64 j) h' := by
        intro j D' h' hij hj mt' s'
        unfold screen_Screen_mend_j3
        rw [ev_add, wrap_i64 (by omega) (by omega)]
        exact ⟨⟨j + 1, D', by omega, by rw [Int.natCast_add]; rfl, mt', s'⟩, by simp only; omega⟩
      have hpair : two (C i y).r = true → (i : Int) + 1 < m.w → (C (i + 1) y).r = -1 → MendTo C D y ((i + 1 : Nat) + 1 : Nat) := fun h1 h2 h3 => by
        have := mend_pair mt (by omega) (two_iff.1 h1) h3
        rwa [show ((i : Int) + 2) = ((i + 1 + 1 : Nat) : Int) by omega] at this
      have hclear : MendTo C (setF D m.w m.g i y (C i y).clr) y (i + 1 : Nat) := by
        have := mend_clear mt ⟨by omega, hlt⟩ hy
        rwa [show ((i : Int) + 1) = ((i + 1 : Nat) : Int) by omega] at this
      have hrest : ¬(two (C i y).r = true ∧ (i : Int) + 1 < m.w ∧ (C (i + 1) y).r = -1) → (sOr (.bool (two (C i y).r)) (fun k =>
  sLd h5 (ptr b4 0) fun x63 =>
  sIxS x63 (.int .i64 i) 4 fun x65 =>
  sOff x65 0 fun x66 =>
  sLd h5 x66 fun x67 =>
  sEq x67 (.int .i32 (-1)) fun x68 =>
  k x68) fun x69 =>
  sIf x69 (screen_Screen_mend_1_c (.int .i64 i) (ptr b2 0) (ptr b3 0) (ptr b4 0) h5 fun x72 h_6 => 
  screen_Screen_mend_j3 (fun x6' h' => (∃ (i : Nat) (D : Cel), (i : Int) ≤ m.w ∧ x6' = .int .i64 i ∧ MendTo C D y i ∧ HW.Sep h0 (Mn k m D C off b2 b3 b4 v y F) h') ∧ (match x6' with | .int _ i => (m.w - i).toNat | _ => 0) < (m.w - i).toNat) (.int .i64 i) h_6) (screen_Screen_mend_j3 (fun x6' h' => (∃ (i : Nat) (D : Cel), (i : Int) ≤ m.w ∧ x6' = .int .i64 i ∧ MendTo C D y i ∧ HW.Sep h0 (Mn k m D C off b2 b3 b4 v y F) h') ∧ (match x6' with | .int _ i => (m.w - i).toNat | _ => 0) < (m.w - i).toNat) (.int .i64 i) h5)) := by
        intro hn
        have g1 : ∀ {K : Value → Prop}, sIxS v (.int .i64 i) 4 K = K (eltP v i 4) := (qq e5).elt (by rw [rowL_len]; omega) .i64
        have g2 : ∀ {K : Value → Prop}, sOff (eltP v i 4) 0 (fun p => sLd h5 p K) = K (.int .i32 (C i y).r) := (qq e5).eltld (rowL_get hlt) rfl
        simp only [f4 e5, g1, g2, ev_eq, ev_or_p, ev_if]
        split
        · exact mend1_spec s5 hlt hy (fun h6 s6 => hj3 i _ h6 (Nat.le_refl _) (by omega) hclear s6)
        · rename_i hc
          simp only [Bool.or_eq_true, beq_iff_eq, not_or] at hc
          have := mend_keep mt (by omega) (fun h => hc.1 (two_iff.2 h)) hc.2
          exact hj3 i _ h5 (Nat.le_refl _) (by omega) (by rwa [show ((i : Int) + 1) = ((i + 1 : Nat) : Int) by omega] at this) s5
      have e1 : ((i : Int) + 1) = ((i + 1 : Nat) : Int) := by omega
      cases ht : two (C i y).r with
      | false =>
        rw [ht] at hrest
        simp only [ev_and, Bool.false_eq_true, if_false, ev_if]
        exact hrest (by simp)
      | true =>
        rw [ht] at hrest hpair
        rw [ev_and, if_pos rfl]
        rw [ev_add, wrap_i64 (by omega) (by omega), f2 e5, ev_nil, ev_off, Nat.zero_add, r1 e5, ev_lt]
        by_cases hl2 : (i : Int) + 1 < m.w
        · rw [decide_eq_true hl2]
          simp only []
          rw [ev_and, if_pos rfl, f4 e5, ev_add, wrap_i64 (by omega) (by omega), e1, (qq e5).elt (by rw [rowL_len]; omega), (qq e5).eltld (rowL_get (by omega)) rfl, ev_eq]
          simp only []
          rw [ev_if]
          by_cases hr : (C (i + 1 : Nat) y).r = -1
          · rw [if_pos (by simpa using hr), ev_add, wrap_i64 (by omega) (by omega), e1]
            exact hj3 (i + 1) _ h5 (by omega) (by omega) (hpair rfl hl2 (by rw [e1]; exact hr)) s5
          · rw [if_neg (by simpa using hr)]
            exact hrest (fun h => hr (by rw [← e1]; exact h.2.2))
        · rw [decide_eq_false hl2]
          simp only []
          rw [ev_and, if_neg (by decide), ev_if, if_neg (by decide)]
          exact hrest (fun h => hl2 h.2.1)
    · rw [if_neg (by simpa using hlt)]
      have : (i : Int) = m.w := by omega
      rw [this] at mt
      exact H D h4 (mend_end mt) s4.tail.tail.tail.tail
  obtain ⟨kg, ov, rs, e, es, so⟩ := Sopen s2.b2
  have hC : (fun h' : Heap => h'.has b2 #[ptr k 0] 23 ∧ h'.has b3 #[.int .i64 y] 3 ∧ Hk k m kg ov h') h2 := ⟨s2.b1.has, s2.has, so.has⟩
  refine ⟨fun h' => h'.has b2 #[ptr k 0] 23 ∧ h'.has b3 #[.int .i64 y] 3 ∧ Hk k m kg ov h', hC, ?_⟩
  have c2 : ∀ {K : Value → Prop}, sLdC (fun h' : Heap => h'.has b2 #[ptr k 0] 23 ∧ h'.has b3 #[.int .i64 y] 3 ∧ Hk k m kg ov h') (ptr b2 0) K = K (ptr k 0) := ldc_at (h0 := h2) hC (fun h' e => by rw [e.1.at]; rfl)
  have c3 : ∀ {K : Value → Prop}, sLdC (fun h' : Heap => h'.has b2 #[ptr k 0] 23 ∧ h'.has b3 #[.int .i64 y] 3 ∧ Hk k m kg ov h') (ptr b3 0) K = K (.int .i64 y) := ldc_at (h0 := h2) hC (fun h' e => by rw [e.2.1.at]; rfl)
  have c0 : ∀ {K : Value → Prop}, sLdC (fun h' : Heap => h'.has b2 #[ptr k 0] 23 ∧ h'.has b3 #[.int .i64 y] 3 ∧ Hk k m kg ov h') (ptr k 0) K = K (ptr kg 0) := ldc_at (h0 := h2) hC (fun h' e => by have := e.2.2; unfold Hk at this; rw [this.at]; rfl)
  rw [c2, ev_nil, ev_off, Nat.zero_add, c0, c3]
  constructor
  · refine grow_spec so.b1 hy (fun v h3 s3 => ?_)
    have cv := s3.cell
    refine s3.new (fun b4 h4 s4 => ⟨⟨?_, ?_, ?_⟩, ?_⟩)
    · exact (selF (L := [_, _, _, _, _, _, _, _]) s4 [7, 0, 1, 2, 3, 4, 5, 6] rfl (by decide)).has
    · exact (selF (L := [_, _, _, _, _, _, _]) s4 [6, 0, 1, 2, 3, 4, 5] rfl (by decide)).has
    · exact s4.b3.has
    refine s4.st (Nat.le_of_ble_eq_true rfl) cv (fun h5 s5 => hj b4 v h5 ?_)
    have s6 := selF (L := [_, _, _, _, _, _, _, _]) s5 [3, 2, 4, 5, 0, 1, 6, 7] rfl (by decide)
    have s7 := Sshut e es s6
    exact selF (L := [_, _, _, _, _]) s7 [1, 2, 3, 4, 0] rfl (by decide)
  · refine so.new (fun b4 h3 s3 => ⟨⟨?_, ?_, ?_⟩, ?_⟩)
    · exact (selF (L := [_, _, _, _, _, _, _]) s3 [6, 0, 1, 2, 3, 4, 5] rfl (by decide)).has
    · exact (selF (L := [_, _, _, _, _, _]) s3 [5, 0, 1, 2, 3, 4] rfl (by decide)).has
    · exact s3.b1.has
    refine grow_spec s3.b2 hy (fun v h4 s4 => ?_)
    have cv := s4.cell
    refine s4.b2.st (Nat.le_of_ble_eq_true rfl) cv (fun h5 s5 => hj b4 v h5 ?_)
    have s6 := selF (L := [_, _, _, _, _, _, _, _]) s5 [3, 2, 4, 5, 0, 1, 6, 7] rfl (by decide)
    have s7 := Sshut e es s6
    exact selF (L := [_, _, _, _, _]) s7 [1, 2, 3, 4, 0] rfl (by decide)
end
end Go.Proofs.YtmhhjpfkipficaaDoor

end

section
/- The shallow reading of one function, and that the function does it. Written by a program. -/
set_option linter.unusedVariables false
namespace Go.Proofs.YtmhhjpfkipficaaDoor
open Go Go.HW

def screen_Screen_EraseLine_S (x0 x1 : Value) (h : Heap) (R : Value → Heap → Prop) : Prop :=
  screen_Screen_cur_c x0 h fun x6 h => 
  sEq x1 (.int .i64 0) fun x9 =>
  sIf x9 (sNil x6 fun x12 =>
  sOff x12 1 fun x13 =>
  sLd h x13 fun x14 =>
  sNil x6 fun x16 =>
  sOff x16 0 fun x17 =>
  sLd h x17 fun x18 =>
  sNil x0 fun x20 =>
  sOff x20 1 fun x21 =>
  sLd h x21 fun x22 =>
  screen_Screen_wipe_c x0 x14 x18 x22 h fun x23 h_1 => 
  R unit h_1) (sEq x1 (.int .i64 1) fun x25 =>
  sIf x25 (sNil x6 fun x28 =>
  sOff x28 1 fun x29 =>
  sLd h x29 fun x30 =>
  sNil x6 fun x32 =>
  sOff x32 0 fun x33 =>
  sLd h x33 fun x34 =>
  sAdd .i64 x34 (.int .i64 1) fun x35 =>
  screen_Screen_wipe_c x0 x30 (.int .i64 0) x35 h fun x36 h_2 => 
  R unit h_2) (sEq x1 (.int .i64 2) fun x38 =>
  sIf x38 (sNil x6 fun x41 =>
  sOff x41 1 fun x42 =>
  sLd h x42 fun x43 =>
  sNil x0 fun x45 =>
  sOff x45 1 fun x46 =>
  sLd h x46 fun x47 =>
  screen_Screen_wipe_c x0 x43 (.int .i64 0) x47 h fun x48 h_3 => 
  R unit h_3) (R unit h)))
set_option maxRecDepth 100000 in
theorem screen_Screen_EraseLine_runs {x0 x1 : Value} {h : Heap} {R : Value → Heap → Prop} (H : screen_Screen_EraseLine_S x0 x1 h R) : screen_Screen_EraseLine_c x0 x1 h R := by
  unfold screen_Screen_EraseLine_S at H
  refine runs_of (b := ⟨#[x0, x1, undef, undef, undef, undef, undef, undef, undef, undef, undef, undef, undef, undef, undef, undef, undef, undef, undef, undef, undef, undef, undef, undef, undef, undef, undef, undef, undef, undef, undef, undef, undef, undef, undef, undef, undef, undef, undef, undef, undef, undef, undef, undef, undef, undef, undef, undef, undef], []⟩) Tryd.call51 Tryd.func51 rfl (by kernel_rfl) (fun w0 HA => ?_)
  refine wp_seq ?_
  refine lwp_list ?_
  refine ls_move (x := x0) (by kernel_rfl) (by kernel_rfl) ?_
  refine ls_d (d := some 6) (by kernel_rfl) (by kernel_rfl) HA (d_call (by kernel_rfl) (by kernel_rfl) H) (fun x6 h w H HA => ?_)
  refine ls_assign (x := x6) (by kernel_rfl) (by kernel_rfl) ?_
  refine ls_nil ?_
  refine then_normal ?_
  refine fr_eq (b := ⟨#[x0, x1, undef, undef, x6, x0, x6, undef, undef, undef, undef, undef, undef, undef, undef, undef, undef, undef, undef, undef, undef, undef, undef, undef, undef, undef, undef, undef, undef, undef, undef, undef, undef, undef, undef, undef, undef, undef, undef, undef, undef, undef, undef, undef, undef, undef, undef, undef, undef], []⟩) (by kernel_rfl) ?_
  refine wp_seq ?_
  refine lwp_list ?_
  refine ls_move (x := x1) (by kernel_rfl) (by kernel_rfl) ?_
  refine ls_nil ?_
  refine then_normal ?_
  refine fr_eq (b := ⟨#[x0, x1, undef, undef, x6, x0, x6, x1, undef, undef, undef, undef, undef, undef, undef, undef, undef, undef, undef, undef, undef, undef, undef, undef, undef, undef, undef, undef, undef, undef, undef, undef, undef, undef, undef, undef, undef, undef, undef, undef, undef, undef, undef, undef, undef, undef, undef, undef, undef], []⟩) (by kernel_rfl) ?_
  refine wp_block ?_
  refine wp_seq ?_
  refine lwp_list ?_
  refine ls_p (d := some 9) (by kernel_rfl) (by kernel_rfl) (p_sEq (by kernel_rfl) (by kernel_rfl) H) (fun x9 H => ?_)
  refine ls_assign (x := x9) (by kernel_rfl) (by kernel_rfl) ?_
  refine ls_nil ?_
  refine then_normal ?_
  refine fr_eq (b := ⟨#[x0, x1, undef, undef, x6, x0, x6, x1, x9, x9, undef, undef, undef, undef, undef, undef, undef, undef, undef, undef, undef, undef, undef, undef, undef, undef, undef, undef, undef, undef, undef, undef, undef, undef, undef, undef, undef, undef, undef, undef, undef, undef, undef, undef, undef, undef, undef, undef, undef], []⟩) (by kernel_rfl) ?_
  refine wp_if rfl H (fun H => ?_) (fun H => ?_)
  · refine lwp_mx (Nat.testBit 8192) (Nat.testBit 0) (Nat.testBit 3823) [0, 0, 2, 6, 14, 0, 32, 96, 224, 0, 512, 1536, 3584, 8191] (Nat.testBit 0) (fun h' => h' = h) [0, 1, 2, 3, 4, 5, 6, 7, 8, 9, 10, 11, 12, 13] (by kernel_rfl) (by kernel_rfl) (by kernel_rfl) (by kernel_rfl) HA rfl ?_
    intro w_1 HA_1
    refine lm_al (x := x0) (d := some 10) (by kernel_rfl) rfl (by kernel_rfl) (by kernel_rfl) (al_move (by kernel_rfl)) ?_
    refine lm_al (x := x6) (d := some 11) (by kernel_rfl) rfl (by kernel_rfl) (by kernel_rfl) (al_move (by kernel_rfl)) ?_
    refine lm_p (d := some 12) (by kernel_rfl) rfl (by kernel_rfl) (by kernel_rfl) (p_nil (by kernel_rfl) H) (fun x12 H => ?_)
    refine lm_p (d := some 13) (by kernel_rfl) rfl (by kernel_rfl) (by kernel_rfl) (p_off Tryd.underlying38 rfl (fun w => ⟨_, Tryd.sizeOf3 w⟩) rfl (by kernel_rfl) H) (fun x13 H => ?_)
    refine lm_f (d := some 14) (by kernel_rfl) rfl (by kernel_rfl) (by kernel_rfl) (by kernel_rfl) (by kernel_rfl) (of_eq (y_ld Tryd.isAgg3 (by kernel_rfl) H)) (fun x14 H => ?_)
    refine lm_al (x := x6) (d := some 15) (by kernel_rfl) rfl (by kernel_rfl) (by kernel_rfl) (al_move (by kernel_rfl)) ?_
    refine lm_fr (b := ⟨#[x0, x1, undef, undef, x6, x0, x6, x1, x9, x9, x0, x6, x12, x13, x14, x6, undef, undef, undef, undef, undef, undef, undef, undef, undef, undef, undef, undef, undef, undef, undef, undef, undef, undef, undef, undef, undef, undef, undef, undef, undef, undef, undef, undef, undef, undef, undef, undef, undef], []⟩) (by kernel_rfl) ?_
    refine lm_p (d := some 16) (by kernel_rfl) rfl (by kernel_rfl) (by kernel_rfl) (p_nil (by kernel_rfl) H) (fun x16 H => ?_)
    refine lm_p (d := some 17) (by kernel_rfl) rfl (by kernel_rfl) (by kernel_rfl) (p_off Tryd.underlying38 rfl (fun w => ⟨_, Tryd.sizeOf3 w⟩) rfl (by kernel_rfl) H) (fun x17 H => ?_)
    refine lm_f (d := some 18) (by kernel_rfl) rfl (by kernel_rfl) (by kernel_rfl) (by kernel_rfl) (by kernel_rfl) (of_eq (y_ld Tryd.isAgg3 (by kernel_rfl) H)) (fun x18 H => ?_)
    refine lm_al (x := x0) (d := some 19) (by kernel_rfl) rfl (by kernel_rfl) (by kernel_rfl) (al_move (by kernel_rfl)) ?_
    refine lm_p (d := some 20) (by kernel_rfl) rfl (by kernel_rfl) (by kernel_rfl) (p_nil (by kernel_rfl) H) (fun x20 H => ?_)
    refine lm_p (d := some 21) (by kernel_rfl) rfl (by kernel_rfl) (by kernel_rfl) (p_off Tryd.underlying64 rfl (fun w => ⟨_, Tryd.sizeOf3 w⟩) rfl (by kernel_rfl) H) (fun x21 H => ?_)
    refine lm_fr (b := ⟨#[x0, x1, undef, undef, x6, x0, x6, x1, x9, x9, x0, x6, x12, x13, x14, x6, x16, x17, x18, x0, x20, x21, undef, undef, undef, undef, undef, undef, undef, undef, undef, undef, undef, undef, undef, undef, undef, undef, undef, undef, undef, undef, undef, undef, undef, undef, undef, undef, undef], []⟩) (by kernel_rfl) ?_
    refine lm_f (d := some 22) (by kernel_rfl) rfl (by kernel_rfl) (by kernel_rfl) (by kernel_rfl) (by kernel_rfl) (of_eq (y_ld Tryd.isAgg3 (by kernel_rfl) H)) (fun x22 H => ?_)
    refine lm_d (d := some 23) (by kernel_rfl) rfl (by kernel_rfl) (by kernel_rfl) (by kernel_rfl) HA_1 (d_call (by kernel_rfl) (by kernel_rfl) H) (fun x23 h_1 w_2 H HA_2 => ?_)
    refine lm_nil ?_
    refine block_normal ?_
    exact end0 (Tryd.results51) (by kernel_rfl) HA_2 H _ (.inl rfl)
  · refine wp_seq ?_
    refine lwp_list ?_
    refine ls_p (d := some 25) (by kernel_rfl) (by kernel_rfl) (p_sEq (by kernel_rfl) (by kernel_rfl) H) (fun x25 H => ?_)
    refine ls_assign (x := x25) (by kernel_rfl) (by kernel_rfl) ?_
    refine ls_nil ?_
    refine then_normal ?_
    refine fr_eq (b := ⟨#[x0, x1, undef, undef, x6, x0, x6, x1, x9, x9, undef, undef, undef, undef, undef, undef, undef, undef, undef, undef, undef, undef, undef, undef, x25, x25, undef, undef, undef, undef, undef, undef, undef, undef, undef, undef, undef, undef, undef, undef, undef, undef, undef, undef, undef, undef, undef, undef, undef], []⟩) (by kernel_rfl) ?_
    refine wp_if rfl H (fun H => ?_) (fun H => ?_)
    · refine lwp_mx (Nat.testBit 1024) (Nat.testBit 0) (Nat.testBit 751) [0, 0, 2, 6, 14, 0, 32, 96, 224, 480, 1023] (Nat.testBit 0) (fun h' => h' = h) [0, 1, 2, 3, 4, 5, 6, 7, 8, 9, 10] (by kernel_rfl) (by kernel_rfl) (by kernel_rfl) (by kernel_rfl) HA rfl ?_
      intro w_3 HA_3
      refine lm_al (x := x0) (d := some 26) (by kernel_rfl) rfl (by kernel_rfl) (by kernel_rfl) (al_move (by kernel_rfl)) ?_
      refine lm_al (x := x6) (d := some 27) (by kernel_rfl) rfl (by kernel_rfl) (by kernel_rfl) (al_move (by kernel_rfl)) ?_
      refine lm_p (d := some 28) (by kernel_rfl) rfl (by kernel_rfl) (by kernel_rfl) (p_nil (by kernel_rfl) H) (fun x28 H => ?_)
      refine lm_p (d := some 29) (by kernel_rfl) rfl (by kernel_rfl) (by kernel_rfl) (p_off Tryd.underlying38 rfl (fun w => ⟨_, Tryd.sizeOf3 w⟩) rfl (by kernel_rfl) H) (fun x29 H => ?_)
      refine lm_f (d := some 30) (by kernel_rfl) rfl (by kernel_rfl) (by kernel_rfl) (by kernel_rfl) (by kernel_rfl) (of_eq (y_ld Tryd.isAgg3 (by kernel_rfl) H)) (fun x30 H => ?_)
      refine lm_al (x := x6) (d := some 31) (by kernel_rfl) rfl (by kernel_rfl) (by kernel_rfl) (al_move (by kernel_rfl)) ?_
      refine lm_fr (b := ⟨#[x0, x1, undef, undef, x6, x0, x6, x1, x9, x9, undef, undef, undef, undef, undef, undef, undef, undef, undef, undef, undef, undef, undef, undef, x25, x25, x0, x6, x28, x29, x30, x6, undef, undef, undef, undef, undef, undef, undef, undef, undef, undef, undef, undef, undef, undef, undef, undef, undef], []⟩) (by kernel_rfl) ?_
      refine lm_p (d := some 32) (by kernel_rfl) rfl (by kernel_rfl) (by kernel_rfl) (p_nil (by kernel_rfl) H) (fun x32 H => ?_)
      refine lm_p (d := some 33) (by kernel_rfl) rfl (by kernel_rfl) (by kernel_rfl) (p_off Tryd.underlying38 rfl (fun w => ⟨_, Tryd.sizeOf3 w⟩) rfl (by kernel_rfl) H) (fun x33 H => ?_)
      refine lm_f (d := some 34) (by kernel_rfl) rfl (by kernel_rfl) (by kernel_rfl) (by kernel_rfl) (by kernel_rfl) (of_eq (y_ld Tryd.isAgg3 (by kernel_rfl) H)) (fun x34 H => ?_)
      refine lm_p (d := some 35) (by kernel_rfl) rfl (by kernel_rfl) (by kernel_rfl) (p_add (by kernel_rfl) (by kernel_rfl) H) (fun x35 H => ?_)
      refine lm_d (d := some 36) (by kernel_rfl) rfl (by kernel_rfl) (by kernel_rfl) (by kernel_rfl) HA_3 (d_call (by kernel_rfl) (by kernel_rfl) H) (fun x36 h_2 w_4 H HA_4 => ?_)
      refine lm_nil ?_
      refine block_normal ?_
      exact end0 (Tryd.results51) (by kernel_rfl) HA_4 H _ (.inl rfl)
    · refine wp_seq ?_
      refine lwp_list ?_
      refine ls_p (d := some 38) (by kernel_rfl) (by kernel_rfl) (p_sEq (by kernel_rfl) (by kernel_rfl) H) (fun x38 H => ?_)
      refine ls_assign (x := x38) (by kernel_rfl) (by kernel_rfl) ?_
      refine ls_nil ?_
      refine then_normal ?_
      refine fr_eq (b := ⟨#[x0, x1, undef, undef, x6, x0, x6, x1, x9, x9, undef, undef, undef, undef, undef, undef, undef, undef, undef, undef, undef, undef, undef, undef, x25, x25, undef, undef, undef, undef, undef, undef, undef, undef, undef, undef, undef, x38, x38, undef, undef, undef, undef, undef, undef, undef, undef, undef, undef], []⟩) (by kernel_rfl) ?_
      refine wp_if rfl H (fun H => ?_) (fun H => ?_)
      · refine lwp_mx (Nat.testBit 512) (Nat.testBit 0) (Nat.testBit 239) [0, 0, 2, 6, 14, 0, 32, 96, 224, 511] (Nat.testBit 0) (fun h' => h' = h) [0, 1, 2, 3, 4, 5, 6, 7, 8, 9] (by kernel_rfl) (by kernel_rfl) (by kernel_rfl) (by kernel_rfl) HA rfl ?_
        intro w_5 HA_5
        refine lm_al (x := x0) (d := some 39) (by kernel_rfl) rfl (by kernel_rfl) (by kernel_rfl) (al_move (by kernel_rfl)) ?_
        refine lm_al (x := x6) (d := some 40) (by kernel_rfl) rfl (by kernel_rfl) (by kernel_rfl) (al_move (by kernel_rfl)) ?_
        refine lm_p (d := some 41) (by kernel_rfl) rfl (by kernel_rfl) (by kernel_rfl) (p_nil (by kernel_rfl) H) (fun x41 H => ?_)
        refine lm_p (d := some 42) (by kernel_rfl) rfl (by kernel_rfl) (by kernel_rfl) (p_off Tryd.underlying38 rfl (fun w => ⟨_, Tryd.sizeOf3 w⟩) rfl (by kernel_rfl) H) (fun x42 H => ?_)
        refine lm_f (d := some 43) (by kernel_rfl) rfl (by kernel_rfl) (by kernel_rfl) (by kernel_rfl) (by kernel_rfl) (of_eq (y_ld Tryd.isAgg3 (by kernel_rfl) H)) (fun x43 H => ?_)
        refine lm_al (x := x0) (d := some 44) (by kernel_rfl) rfl (by kernel_rfl) (by kernel_rfl) (al_move (by kernel_rfl)) ?_
        refine lm_fr (b := ⟨#[x0, x1, undef, undef, x6, x0, x6, x1, x9, x9, undef, undef, undef, undef, undef, undef, undef, undef, undef, undef, undef, undef, undef, undef, x25, x25, undef, undef, undef, undef, undef, undef, undef, undef, undef, undef, undef, x38, x38, x0, x6, x41, x42, x43, x0, undef, undef, undef, undef], []⟩) (by kernel_rfl) ?_
        refine lm_p (d := some 45) (by kernel_rfl) rfl (by kernel_rfl) (by kernel_rfl) (p_nil (by kernel_rfl) H) (fun x45 H => ?_)
        refine lm_p (d := some 46) (by kernel_rfl) rfl (by kernel_rfl) (by kernel_rfl) (p_off Tryd.underlying64 rfl (fun w => ⟨_, Tryd.sizeOf3 w⟩) rfl (by kernel_rfl) H) (fun x46 H => ?_)
        refine lm_f (d := some 47) (by kernel_rfl) rfl (by kernel_rfl) (by kernel_rfl) (by kernel_rfl) (by kernel_rfl) (of_eq (y_ld Tryd.isAgg3 (by kernel_rfl) H)) (fun x47 H => ?_)
        refine lm_d (d := some 48) (by kernel_rfl) rfl (by kernel_rfl) (by kernel_rfl) (by kernel_rfl) HA_5 (d_call (by kernel_rfl) (by kernel_rfl) H) (fun x48 h_3 w_6 H HA_6 => ?_)
        refine lm_nil ?_
        refine block_normal ?_
        exact end0 (Tryd.results51) (by kernel_rfl) HA_6 H _ (.inl rfl)
      · refine wp_skip ?_
        refine block_normal ?_
        exact end0 (Tryd.results51) (by kernel_rfl) HA H _ (.inl rfl)

end Go.Proofs.YtmhhjpfkipficaaDoor

end

section
/- The shallow reading of one function, and that the function does it. Written by a program. -/
set_option linter.unusedVariables false
namespace Go.Proofs.YtmhhjpfkipficaaDoor
open Go Go.HW

def screen_Screen_Erase_j2 (R : Value → Heap → Prop) (x0 x1 : Value) (h_2 : Heap) : Prop :=
  screen_Screen_EraseLine_c x0 x1 h_2 fun x56 h_3 => 
  R unit h_3
def screen_Screen_Erase_j1 (R : Value → Heap → Prop) (x0 x1 x15 : Value) (h_1 : Heap) : Prop :=
  sNe x1 (.int .i64 1) fun x32 =>
  sIf x32 (∃ C : Heap → Prop, C h_1 ∧ (sNil x0 fun x34 =>
  sOff x34 0 fun x35 =>
  sLdC C x35 fun x36 =>
  sAdd .i64 x15 (.int .i64 1) fun x38 =>
  sNil x0 fun x40 =>
  sOff x40 1 fun x41 =>
  sLdC C x41 fun x42 =>
  sNil x0 fun x44 =>
  sOff x44 2 fun x45 =>
  sLdC C x45 fun x46 =>
  sSub .i64 x46 x15 fun x48 =>
  sSub .i64 x48 (.int .i64 1) fun x49 =>
  sBuild #[.int .i64 0, .int .i64 0, .int .i64 0, .int .i64 0] [(1, 1, x38), (2, 1, x42), (3, 1, x49)] fun x50 =>
  screen_Screen_blank_c x0 h_1 fun x52 h_4 => C h_4 ∧ (
  grid_Grid_Fill_c x36 x50 x52 h_4 fun x53 h_5 => 
  screen_Screen_Erase_j2 R x0 x1 h_5))) (screen_Screen_Erase_j2 R x0 x1 h_1)
def screen_Screen_Erase_S (x0 x1 : Value) (h : Heap) (R : Value → Heap → Prop) : Prop :=
  sLt x1 (.int .i64 0) fun x6 =>
  sOr x6 (fun k =>
  sGt x1 (.int .i64 2) fun x9 =>
  k x9) fun x10 =>
  sIf x10 (R unit h) (screen_Screen_cur_c x0 h fun x12 h => 
  sNil x12 fun x13 =>
  sOff x13 1 fun x14 =>
  sLd h x14 fun x15 =>
  sNe x1 (.int .i64 0) fun x17 =>
  sIf x17 (∃ C_1 : Heap → Prop, C_1 h ∧ (sNil x0 fun x19 =>
  sOff x19 0 fun x20 =>
  sLdC C_1 x20 fun x21 =>
  sNil x0 fun x23 =>
  sOff x23 1 fun x24 =>
  sLdC C_1 x24 fun x25 =>
  sBuild #[.int .i64 0, .int .i64 0, .int .i64 0, .int .i64 0] [(2, 1, x25), (3, 1, x15)] fun x27 =>
  screen_Screen_blank_c x0 h fun x29 h_6 => C_1 h_6 ∧ (
  grid_Grid_Fill_c x21 x27 x29 h_6 fun x30 h_7 => 
  screen_Screen_Erase_j1 R x0 x1 x15 h_7))) (screen_Screen_Erase_j1 R x0 x1 x15 h))
set_option maxRecDepth 100000 in
theorem screen_Screen_Erase_runs {x0 x1 : Value} {h : Heap} {R : Value → Heap → Prop} (H : screen_Screen_Erase_S x0 x1 h R) : screen_Screen_Erase_c x0 x1 h R := by
  unfold screen_Screen_Erase_S at H
  refine runs_of (b := ⟨#[x0, x1, undef, undef, undef, undef, undef, undef, undef, undef, undef, undef, undef, undef, undef, undef, undef, undef, undef, undef, undef, undef, undef, undef, undef, undef, undef, undef, undef, undef, undef, undef, undef, undef, undef, undef, undef, undef, undef, undef, undef, undef, undef, undef, undef, undef, undef, undef, undef, undef, undef, undef, undef, undef, undef, undef, undef], []⟩) Tryd.call24 Tryd.func24 rfl (by kernel_rfl) (fun w0 HA => ?_)
  refine wp_seq ?_
  refine wp_seq ?_
  refine lwp_list ?_
  refine ls_move (x := x1) (by kernel_rfl) (by kernel_rfl) ?_
  refine ls_p (d := some 6) (by kernel_rfl) (by kernel_rfl) (p_sLt (by kernel_rfl) (by kernel_rfl) H) (fun x6 H => ?_)
  refine ls_move (x := x6) (by kernel_rfl) (by kernel_rfl) ?_
  refine ls_or [(), (), ()] (fun K a w => ∃ (D : Nat → Value) (x10 : Value), a = ⟨#[x0, x1, undef, undef, undef, x1, x6, x6, (D 0), (D 1), x10, undef, undef, undef, undef, undef, undef, undef, undef, undef, undef, undef, undef, undef, undef, undef, undef, undef, undef, undef, undef, undef, undef, undef, undef, undef, undef, undef, undef, undef, undef, undef, undef, undef, undef, undef, undef, undef, undef, undef, undef, undef, undef, undef, undef, undef, undef], []⟩ ∧ At w0 w h ∧ K x10) H (fun hb H => ?_) (fun hb H => ?_) ?_
  · refine ls_move (x := x1) (by rw [hb]; kernel_rfl) (by kernel_rfl) ?_
    refine ls_p (d := some 9) (by kernel_rfl) (by rw [hb]; kernel_rfl) (p_sGt (by kernel_rfl) (by kernel_rfl) H) (fun x9 H => ?_)
    refine ls_pick_f (y := x9) (by kernel_rfl) (by rw [hb]; kernel_rfl) (by kernel_rfl) ?_
    refine ls_nil ?_
    refine then_normal ?_
    exact ⟨(fun i => ([x1, x9]).getD i undef), x9, by kernel_rfl, HA, H⟩
  · refine ls_skip (d := some 8) (by kernel_rfl) (by rw [hb]; kernel_rfl) ?_
    refine ls_skip (d := some 9) (by kernel_rfl) (by rw [hb]; kernel_rfl) ?_
    refine ls_pick_t (x := (.bool true)) (by kernel_rfl) (by rw [hb]; kernel_rfl) (by kernel_rfl) ?_
    refine ls_nil ?_
    refine then_normal ?_
    exact ⟨(fun i => ([undef, undef]).getD i undef), (.bool true), by kernel_rfl, HA, H⟩
  · rintro _ w ⟨D, x10, rfl, HA, H⟩
    refine ls_nil ?_
    refine then_normal ?_
    refine fr_eq (b := ⟨#[x0, x1, undef, undef, undef, x1, x6, x6, (D 0), (D 1), x10, undef, undef, undef, undef, undef, undef, undef, undef, undef, undef, undef, undef, undef, undef, undef, undef, undef, undef, undef, undef, undef, undef, undef, undef, undef, undef, undef, undef, undef, undef, undef, undef, undef, undef, undef, undef, undef, undef, undef, undef, undef, undef, undef, undef, undef, undef], []⟩) (by kernel_rfl) ?_
    refine wp_if rfl H (fun H => ?_) (fun H => ?_)
    · refine wp_ret ?_
      refine then_ret ?_
      exact end0 (Tryd.results24) (by kernel_rfl) HA H _ (.inr rfl)
    · refine wp_skip ?_
      refine then_normal ?_
      refine fr_eq (b := ⟨#[x0, x1, undef, undef, undef, x1, x6, x6, (D 0), (D 1), x10, undef, undef, undef, undef, undef, undef, undef, undef, undef, undef, undef, undef, undef, undef, undef, undef, undef, undef, undef, undef, undef, undef, undef, undef, undef, undef, undef, undef, undef, undef, undef, undef, undef, undef, undef, undef, undef, undef, undef, undef, undef, undef, undef, undef, undef, undef], []⟩) (by kernel_rfl) ?_
      refine wp_seq ?_
      refine lwp_list ?_
      refine ls_move (x := x0) (by kernel_rfl) (by kernel_rfl) ?_
      refine ls_d (d := some 12) (by kernel_rfl) (by kernel_rfl) HA (d_call (by kernel_rfl) (by kernel_rfl) H) (fun x12 h w_1 H HA_1 => ?_)
      refine ls_p (d := some 13) (by kernel_rfl) (by kernel_rfl) (p_nil (by kernel_rfl) H) (fun x13 H => ?_)
      refine ls_p (d := some 14) (by kernel_rfl) (by kernel_rfl) (p_off Tryd.underlying38 rfl (fun w => ⟨_, Tryd.sizeOf3 w⟩) rfl (by kernel_rfl) H) (fun x14 H => ?_)
      refine ls_y (d := some 15) (by kernel_rfl) (by kernel_rfl) HA_1 (y_ld Tryd.isAgg3 (by kernel_rfl) H) (fun x15 H => ?_)
      refine ls_assign (x := x15) (by kernel_rfl) (by kernel_rfl) ?_
      refine ls_nil ?_
      refine then_normal ?_
      refine fr_eq (b := ⟨#[x0, x1, undef, undef, x15, x1, x6, x6, (D 0), (D 1), x10, x0, x12, x13, x14, x15, undef, undef, undef, undef, undef, undef, undef, undef, undef, undef, undef, undef, undef, undef, undef, undef, undef, undef, undef, undef, undef, undef, undef, undef, undef, undef, undef, undef, undef, undef, undef, undef, undef, undef, undef, undef, undef, undef, undef, undef, undef], []⟩) (by kernel_rfl) ?_
      refine wp_seq ?_
      refine wp_seq ?_
      refine lwp_list ?_
      refine ls_move (x := x1) (by kernel_rfl) (by kernel_rfl) ?_
      refine ls_p (d := some 17) (by kernel_rfl) (by kernel_rfl) (p_sNe (by kernel_rfl) (by kernel_rfl) H) (fun x17 H => ?_)
      refine ls_nil ?_
      refine then_normal ?_
      refine fr_eq (b := ⟨#[x0, x1, undef, undef, x15, x1, x6, x6, (D 0), (D 1), x10, x0, x12, x13, x14, x15, x1, x17, undef, undef, undef, undef, undef, undef, undef, undef, undef, undef, undef, undef, undef, undef, undef, undef, undef, undef, undef, undef, undef, undef, undef, undef, undef, undef, undef, undef, undef, undef, undef, undef, undef, undef, undef, undef, undef, undef, undef], []⟩) (by kernel_rfl) ?_
      refine wp_join (fun a w => ∃ (D_1 : Nat → Value) (h_1 : Heap), a = ⟨#[x0, x1, undef, undef, x15, x1, x6, x6, (D 0), (D 1), x10, x0, x12, x13, x14, x15, x1, x17, (D_1 0), (D_1 1), (D_1 2), (D_1 3), (D_1 4), (D_1 5), (D_1 6), (D_1 7), (D_1 8), (D_1 9), (D_1 10), (D_1 11), (D_1 12), undef, undef, undef, undef, undef, undef, undef, undef, undef, undef, undef, undef, undef, undef, undef, undef, undef, undef, undef, undef, undef, undef, undef, undef, undef, undef], []⟩ ∧ At w0 w h_1 ∧ screen_Screen_Erase_j1 R x0 x1 x15 h_1) ?_ ?_
      · refine wp_if rfl H (fun H => ?_) (fun H => ?_)
        · obtain ⟨C_1, HC, H⟩ := H
          refine lwp_mx (Nat.testBit 6144) (Nat.testBit 2048) (Nat.testBit 1911) [0, 1, 3, 7, 0, 16, 48, 112, 0, 496, 0, 1024, 4095] (Nat.testBit 0) C_1 [0, 1, 2, 3, 4, 5, 6, 7, 8, 9, 10, 11, 12] (by kernel_rfl) (by kernel_rfl) (by kernel_rfl) (by kernel_rfl) HA_1 HC ?_
          intro w_8 HA_8
          refine lm_al (x := x0) (d := some 18) (by kernel_rfl) rfl (by kernel_rfl) (by kernel_rfl) (al_move (by kernel_rfl)) ?_
          refine lm_p (d := some 19) (by kernel_rfl) rfl (by kernel_rfl) (by kernel_rfl) (p_nil (by kernel_rfl) H) (fun x19 H => ?_)
          refine lm_p (d := some 20) (by kernel_rfl) rfl (by kernel_rfl) (by kernel_rfl) (p_off Tryd.underlying64 rfl (fun w => ⟨_, Tryd.sizeOf54 w⟩) rfl (by kernel_rfl) H) (fun x20 H => ?_)
          refine lm_f (d := some 21) (by kernel_rfl) rfl (by kernel_rfl) (by kernel_rfl) (by kernel_rfl) (by kernel_rfl) (c_ld Tryd.isAgg54 (by kernel_rfl) H) (fun x21 H => ?_)
          refine lm_al (x := x0) (d := some 22) (by kernel_rfl) rfl (by kernel_rfl) (by kernel_rfl) (al_move (by kernel_rfl)) ?_
          refine lm_p (d := some 23) (by kernel_rfl) rfl (by kernel_rfl) (by kernel_rfl) (p_nil (by kernel_rfl) H) (fun x23 H => ?_)
          refine lm_fr (b := ⟨#[x0, x1, undef, undef, x15, x1, x6, x6, (D 0), (D 1), x10, x0, x12, x13, x14, x15, x1, x17, x0, x19, x20, x21, x0, x23, undef, undef, undef, undef, undef, undef, undef, undef, undef, undef, undef, undef, undef, undef, undef, undef, undef, undef, undef, undef, undef, undef, undef, undef, undef, undef, undef, undef, undef, undef, undef, undef, undef], []⟩) (by kernel_rfl) ?_
          refine lm_p (d := some 24) (by kernel_rfl) rfl (by kernel_rfl) (by kernel_rfl) (p_off Tryd.underlying64 rfl (fun w => ⟨_, Tryd.sizeOf3 w⟩) rfl (by kernel_rfl) H) (fun x24 H => ?_)
          refine lm_f (d := some 25) (by kernel_rfl) rfl (by kernel_rfl) (by kernel_rfl) (by kernel_rfl) (by kernel_rfl) (c_ld Tryd.isAgg3 (by kernel_rfl) H) (fun x25 H => ?_)
          refine lm_al (x := x15) (d := some 26) (by kernel_rfl) rfl (by kernel_rfl) (by kernel_rfl) (al_move (by kernel_rfl)) ?_
          refine lm_p (d := some 27) (by kernel_rfl) rfl (by kernel_rfl) (by kernel_rfl) (p_lit (pl := [(0, 1), (1, 1), (2, 1), (3, 1)]) Tryd.zeroValue83 Tryd.underlying83 ⟨(by kernel_rfl), Tryd.sizeOf3, (by kernel_rfl), Tryd.sizeOf3, (by kernel_rfl), Tryd.sizeOf3, (by kernel_rfl), Tryd.sizeOf3, trivial⟩ (by kernel_rfl) (by kernel_rfl) H) (fun x27 H => ?_)
          refine lm_al (x := x0) (d := some 28) (by kernel_rfl) rfl (by kernel_rfl) (by kernel_rfl) (al_move (by kernel_rfl)) ?_
          refine lm_dc (d := some 29) (by kernel_rfl) rfl (by kernel_rfl) (by kernel_rfl) (by kernel_rfl) HA_8 (d_call (by kernel_rfl) (by kernel_rfl) H) (fun x29 h_6 w_9 H HA_9 => ?_)
          refine lm_fr (b := ⟨#[x0, x1, undef, undef, x15, x1, x6, x6, (D 0), (D 1), x10, x0, x12, x13, x14, x15, x1, x17, x0, x19, x20, x21, x0, x23, x24, x25, x15, x27, x0, x29, undef, undef, undef, undef, undef, undef, undef, undef, undef, undef, undef, undef, undef, undef, undef, undef, undef, undef, undef, undef, undef, undef, undef, undef, undef, undef, undef], []⟩) (by kernel_rfl) ?_
          refine lm_d (d := some 30) (by kernel_rfl) rfl (by kernel_rfl) (by kernel_rfl) (by kernel_rfl) HA_9 (d_call (by kernel_rfl) (by kernel_rfl) H) (fun x30 h_7 w_10 H HA_10 => ?_)
          refine lm_nil ?_
          exact ⟨(fun i => ([x0, x19, x20, x21, x0, x23, x24, x25, x15, x27, x0, x29, x30]).getD i undef), h_7, by kernel_rfl, HA_10, H⟩
        · refine wp_skip ?_
          exact ⟨(fun i => ([undef, undef, undef, undef, undef, undef, undef, undef, undef, undef, undef, undef, undef]).getD i undef), h, by kernel_rfl, HA_1, H⟩
      · rintro _ w_2 ⟨D_1, h_1, rfl, HA_2, H⟩
        unfold screen_Screen_Erase_j1 at H
        refine then_normal ?_
        refine fr_eq (b := ⟨#[x0, x1, undef, undef, x15, x1, x6, x6, (D 0), (D 1), x10, x0, x12, x13, x14, x15, x1, x17, (D_1 0), (D_1 1), (D_1 2), (D_1 3), (D_1 4), (D_1 5), (D_1 6), (D_1 7), (D_1 8), (D_1 9), (D_1 10), (D_1 11), (D_1 12), undef, undef, undef, undef, undef, undef, undef, undef, undef, undef, undef, undef, undef, undef, undef, undef, undef, undef, undef, undef, undef, undef, undef, undef, undef, undef], []⟩) (by kernel_rfl) ?_
        refine wp_seq ?_
        refine wp_seq ?_
        refine lwp_list ?_
        refine ls_move (x := x1) (by kernel_rfl) (by kernel_rfl) ?_
        refine ls_p (d := some 32) (by kernel_rfl) (by kernel_rfl) (p_sNe (by kernel_rfl) (by kernel_rfl) H) (fun x32 H => ?_)
        refine ls_nil ?_
        refine then_normal ?_
        refine fr_eq (b := ⟨#[x0, x1, undef, undef, x15, x1, x6, x6, (D 0), (D 1), x10, x0, x12, x13, x14, x15, x1, x17, (D_1 0), (D_1 1), (D_1 2), (D_1 3), (D_1 4), (D_1 5), (D_1 6), (D_1 7), (D_1 8), (D_1 9), (D_1 10), (D_1 11), (D_1 12), x1, x32, undef, undef, undef, undef, undef, undef, undef, undef, undef, undef, undef, undef, undef, undef, undef, undef, undef, undef, undef, undef, undef, undef, undef, undef], []⟩) (by kernel_rfl) ?_
        refine wp_join (fun a w => ∃ (D_2 : Nat → Value) (h_2 : Heap), a = ⟨#[x0, x1, undef, undef, x15, x1, x6, x6, (D 0), (D 1), x10, x0, x12, x13, x14, x15, x1, x17, (D_1 0), (D_1 1), (D_1 2), (D_1 3), (D_1 4), (D_1 5), (D_1 6), (D_1 7), (D_1 8), (D_1 9), (D_1 10), (D_1 11), (D_1 12), x1, x32, (D_2 0), (D_2 1), (D_2 2), (D_2 3), (D_2 4), (D_2 5), (D_2 6), (D_2 7), (D_2 8), (D_2 9), (D_2 10), (D_2 11), (D_2 12), (D_2 13), (D_2 14), (D_2 15), (D_2 16), (D_2 17), (D_2 18), (D_2 19), (D_2 20), undef, undef, undef], []⟩ ∧ At w0 w h_2 ∧ screen_Screen_Erase_j2 R x0 x1 h_2) ?_ ?_
        · refine wp_if rfl H (fun H => ?_) (fun H => ?_)
          · obtain ⟨C, HC, H⟩ := H
            refine lwp_mx (Nat.testBit 1572864) (Nat.testBit 524288) (Nat.testBit 515575) [0, 1, 3, 7, 0, 16, 0, 64, 192, 448, 0, 1024, 3072, 7168, 0, 31744, 64512, 131056, 0, 262144, 1048575] (Nat.testBit 0) C [0, 1, 2, 3, 4, 5, 6, 7, 8, 9, 10, 11, 12, 13, 14, 15, 16, 17, 18, 19, 20] (by kernel_rfl) (by kernel_rfl) (by kernel_rfl) (by kernel_rfl) HA_2 HC ?_
            intro w_5 HA_5
            refine lm_al (x := x0) (d := some 33) (by kernel_rfl) rfl (by kernel_rfl) (by kernel_rfl) (al_move (by kernel_rfl)) ?_
            refine lm_p (d := some 34) (by kernel_rfl) rfl (by kernel_rfl) (by kernel_rfl) (p_nil (by kernel_rfl) H) (fun x34 H => ?_)
            refine lm_p (d := some 35) (by kernel_rfl) rfl (by kernel_rfl) (by kernel_rfl) (p_off Tryd.underlying64 rfl (fun w => ⟨_, Tryd.sizeOf54 w⟩) rfl (by kernel_rfl) H) (fun x35 H => ?_)
            refine lm_f (d := some 36) (by kernel_rfl) rfl (by kernel_rfl) (by kernel_rfl) (by kernel_rfl) (by kernel_rfl) (c_ld Tryd.isAgg54 (by kernel_rfl) H) (fun x36 H => ?_)
            refine lm_al (x := x15) (d := some 37) (by kernel_rfl) rfl (by kernel_rfl) (by kernel_rfl) (al_move (by kernel_rfl)) ?_
            refine lm_p (d := some 38) (by kernel_rfl) rfl (by kernel_rfl) (by kernel_rfl) (p_add (by kernel_rfl) (by kernel_rfl) H) (fun x38 H => ?_)
            refine lm_fr (b := ⟨#[x0, x1, undef, undef, x15, x1, x6, x6, (D 0), (D 1), x10, x0, x12, x13, x14, x15, x1, x17, (D_1 0), (D_1 1), (D_1 2), (D_1 3), (D_1 4), (D_1 5), (D_1 6), (D_1 7), (D_1 8), (D_1 9), (D_1 10), (D_1 11), (D_1 12), x1, x32, x0, x34, x35, x36, x15, x38, undef, undef, undef, undef, undef, undef, undef, undef, undef, undef, undef, undef, undef, undef, undef, undef, undef, undef], []⟩) (by kernel_rfl) ?_
            refine lm_al (x := x0) (d := some 39) (by kernel_rfl) rfl (by kernel_rfl) (by kernel_rfl) (al_move (by kernel_rfl)) ?_
            refine lm_p (d := some 40) (by kernel_rfl) rfl (by kernel_rfl) (by kernel_rfl) (p_nil (by kernel_rfl) H) (fun x40 H => ?_)
            refine lm_p (d := some 41) (by kernel_rfl) rfl (by kernel_rfl) (by kernel_rfl) (p_off Tryd.underlying64 rfl (fun w => ⟨_, Tryd.sizeOf3 w⟩) rfl (by kernel_rfl) H) (fun x41 H => ?_)
            refine lm_f (d := some 42) (by kernel_rfl) rfl (by kernel_rfl) (by kernel_rfl) (by kernel_rfl) (by kernel_rfl) (c_ld Tryd.isAgg3 (by kernel_rfl) H) (fun x42 H => ?_)
            refine lm_al (x := x0) (d := some 43) (by kernel_rfl) rfl (by kernel_rfl) (by kernel_rfl) (al_move (by kernel_rfl)) ?_
            refine lm_p (d := some 44) (by kernel_rfl) rfl (by kernel_rfl) (by kernel_rfl) (p_nil (by kernel_rfl) H) (fun x44 H => ?_)
            refine lm_fr (b := ⟨#[x0, x1, undef, undef, x15, x1, x6, x6, (D 0), (D 1), x10, x0, x12, x13, x14, x15, x1, x17, (D_1 0), (D_1 1), (D_1 2), (D_1 3), (D_1 4), (D_1 5), (D_1 6), (D_1 7), (D_1 8), (D_1 9), (D_1 10), (D_1 11), (D_1 12), x1, x32, x0, x34, x35, x36, x15, x38, x0, x40, x41, x42, x0, x44, undef, undef, undef, undef, undef, undef, undef, undef, undef, undef, undef, undef], []⟩) (by kernel_rfl) ?_
            refine lm_p (d := some 45) (by kernel_rfl) rfl (by kernel_rfl) (by kernel_rfl) (p_off Tryd.underlying64 rfl (fun w => ⟨_, Tryd.sizeOf3 w⟩) rfl (by kernel_rfl) H) (fun x45 H => ?_)
            refine lm_f (d := some 46) (by kernel_rfl) rfl (by kernel_rfl) (by kernel_rfl) (by kernel_rfl) (by kernel_rfl) (c_ld Tryd.isAgg3 (by kernel_rfl) H) (fun x46 H => ?_)
            refine lm_al (x := x15) (d := some 47) (by kernel_rfl) rfl (by kernel_rfl) (by kernel_rfl) (al_move (by kernel_rfl)) ?_
            refine lm_p (d := some 48) (by kernel_rfl) rfl (by kernel_rfl) (by kernel_rfl) (p_sub (by kernel_rfl) (by kernel_rfl) H) (fun x48 H => ?_)
            refine lm_p (d := some 49) (by kernel_rfl) rfl (by kernel_rfl) (by kernel_rfl) (p_sub (by kernel_rfl) (by kernel_rfl) H) (fun x49 H => ?_)
            refine lm_p (d := some 50) (by kernel_rfl) rfl (by kernel_rfl) (by kernel_rfl) (p_lit (pl := [(0, 1), (1, 1), (2, 1), (3, 1)]) Tryd.zeroValue83 Tryd.underlying83 ⟨(by kernel_rfl), Tryd.sizeOf3, (by kernel_rfl), Tryd.sizeOf3, (by kernel_rfl), Tryd.sizeOf3, (by kernel_rfl), Tryd.sizeOf3, trivial⟩ (by kernel_rfl) (by kernel_rfl) H) (fun x50 H => ?_)
            refine lm_fr (b := ⟨#[x0, x1, undef, undef, x15, x1, x6, x6, (D 0), (D 1), x10, x0, x12, x13, x14, x15, x1, x17, (D_1 0), (D_1 1), (D_1 2), (D_1 3), (D_1 4), (D_1 5), (D_1 6), (D_1 7), (D_1 8), (D_1 9), (D_1 10), (D_1 11), (D_1 12), x1, x32, x0, x34, x35, x36, x15, x38, x0, x40, x41, x42, x0, x44, x45, x46, x15, x48, x49, x50, undef, undef, undef, undef, undef, undef], []⟩) (by kernel_rfl) ?_
            refine lm_al (x := x0) (d := some 51) (by kernel_rfl) rfl (by kernel_rfl) (by kernel_rfl) (al_move (by kernel_rfl)) ?_
            refine lm_dc (d := some 52) (by kernel_rfl) rfl (by kernel_rfl) (by kernel_rfl) (by kernel_rfl) HA_5 (d_call (by kernel_rfl) (by kernel_rfl) H) (fun x52 h_4 w_6 H HA_6 => ?_)
            refine lm_d (d := some 53) (by kernel_rfl) rfl (by kernel_rfl) (by kernel_rfl) (by kernel_rfl) HA_6 (d_call (by kernel_rfl) (by kernel_rfl) H) (fun x53 h_5 w_7 H HA_7 => ?_)
            refine lm_nil ?_
            exact ⟨(fun i => ([x0, x34, x35, x36, x15, x38, x0, x40, x41, x42, x0, x44, x45, x46, x15, x48, x49, x50, x0, x52, x53]).getD i undef), h_5, by kernel_rfl, HA_7, H⟩
          · refine wp_skip ?_
            exact ⟨(fun i => ([undef, undef, undef, undef, undef, undef, undef, undef, undef, undef, undef, undef, undef, undef, undef, undef, undef, undef, undef, undef, undef]).getD i undef), h_1, by kernel_rfl, HA_2, H⟩
        · rintro _ w_3 ⟨D_2, h_2, rfl, HA_3, H⟩
          unfold screen_Screen_Erase_j2 at H
          refine then_normal ?_
          refine fr_eq (b := ⟨#[x0, x1, undef, undef, x15, x1, x6, x6, (D 0), (D 1), x10, x0, x12, x13, x14, x15, x1, x17, (D_1 0), (D_1 1), (D_1 2), (D_1 3), (D_1 4), (D_1 5), (D_1 6), (D_1 7), (D_1 8), (D_1 9), (D_1 10), (D_1 11), (D_1 12), x1, x32, (D_2 0), (D_2 1), (D_2 2), (D_2 3), (D_2 4), (D_2 5), (D_2 6), (D_2 7), (D_2 8), (D_2 9), (D_2 10), (D_2 11), (D_2 12), (D_2 13), (D_2 14), (D_2 15), (D_2 16), (D_2 17), (D_2 18), (D_2 19), (D_2 20), undef, undef, undef], []⟩) (by kernel_rfl) ?_
          refine lwp_list ?_
          refine ls_move (x := x0) (by kernel_rfl) (by kernel_rfl) ?_
          refine ls_move (x := x1) (by kernel_rfl) (by kernel_rfl) ?_
          refine ls_d (d := some 56) (by kernel_rfl) (by kernel_rfl) HA_3 (d_call (by kernel_rfl) (by kernel_rfl) H) (fun x56 h_3 w_4 H HA_4 => ?_)
          refine ls_nil ?_
          exact end0 (Tryd.results24) (by kernel_rfl) HA_4 H _ (.inl rfl)

end Go.Proofs.YtmhhjpfkipficaaDoor

end

section
/- The shallow reading of one function, and that the function does it. Written by a program. -/
set_option linter.unusedVariables false
namespace Go.Proofs.YtmhhjpfkipficaaDoor
open Go Go.HW

def screen_Screen_Cells_S (x0 x1 x2 : Value) (h : Heap) (R : Value → Heap → Prop) : Prop :=
  screen_Screen_cur_c x0 h fun x10 h => 
  sNil x10 fun x12 =>
  sOff x12 2 fun x13 =>
  sSt h x13 (.bool false) fun h_1 => 
  sNil x0 fun x16 =>
  sOff x16 1 fun x17 =>
  sLd h_1 x17 fun x18 =>
  sNil x10 fun x20 =>
  sOff x20 0 fun x21 =>
  sLd h_1 x21 fun x22 =>
  sSub .i64 x18 x22 fun x23 =>
  sMin x1 x23 fun x24 =>
  sLt x24 (.int .i64 1) fun x26 =>
  sIf x26 (R unit h_1) (sNil x0 fun x28 =>
  sOff x28 1 fun x29 =>
  sLd h_1 x29 fun x30 =>
  sNil x10 fun x32 =>
  sOff x32 0 fun x33 =>
  sLd h_1 x33 fun x34 =>
  sSub .i64 x30 x34 fun x35 =>
  sSub .i64 x35 x24 fun x37 =>
  sNil x10 fun x39 =>
  sOff x39 0 fun x40 =>
  sLd h_1 x40 fun x41 =>
  sAdd .i64 x41 x24 fun x43 =>
  sIf x2 (sNil x0 fun x46 =>
  sOff x46 0 fun x47 =>
  sLd h_1 x47 fun x48 =>
  sNil x10 fun x50 =>
  sOff x50 0 fun x51 =>
  sLd h_1 x51 fun x52 =>
  sNil x10 fun x54 =>
  sOff x54 1 fun x55 =>
  sLd h_1 x55 fun x56 =>
  sBuild #[.int .i64 0, .int .i64 0, .int .i64 0, .int .i64 0] [(0, 1, x52), (1, 1, x56), (2, 1, x37), (3, 1, (.int .i64 1))] fun x58 =>
  sNil x10 fun x61 =>
  sOff x61 1 fun x62 =>
  sLd h_1 x62 fun x63 =>
  grid_Grid_Copy_c x48 x58 x43 x63 h_1 fun x64 h_2 => 
  sNil x10 fun x67 =>
  sOff x67 1 fun x68 =>
  sLd h_2 x68 fun x69 =>
  sNil x10 fun x71 =>
  sOff x71 0 fun x72 =>
  sLd h_2 x72 fun x73 =>
  screen_Screen_wipe_c x0 x69 x73 x43 h_2 fun x75 h_3 => 
  R unit h_3) (sNil x0 fun x77 =>
  sOff x77 0 fun x78 =>
  sLd h_1 x78 fun x79 =>
  sNil x10 fun x82 =>
  sOff x82 1 fun x83 =>
  sLd h_1 x83 fun x84 =>
  sBuild #[.int .i64 0, .int .i64 0, .int .i64 0, .int .i64 0] [(0, 1, x43), (1, 1, x84), (2, 1, x37), (3, 1, (.int .i64 1))] fun x86 =>
  sNil x10 fun x88 =>
  sOff x88 0 fun x89 =>
  sLd h_1 x89 fun x90 =>
  sNil x10 fun x92 =>
  sOff x92 1 fun x93 =>
  sLd h_1 x93 fun x94 =>
  grid_Grid_Copy_c x79 x86 x90 x94 h_1 fun x95 h_4 => 
  sNil x10 fun x98 =>
  sOff x98 1 fun x99 =>
  sLd h_4 x99 fun x100 =>
  sNil x0 fun x102 =>
  sOff x102 1 fun x103 =>
  sLd h_4 x103 fun x104 =>
  sSub .i64 x104 x24 fun x106 =>
  sNil x0 fun x108 =>
  sOff x108 1 fun x109 =>
  sLd h_4 x109 fun x110 =>
  screen_Screen_wipe_c x0 x100 x106 x110 h_4 fun x111 h_5 => 
  R unit h_5))
set_option maxRecDepth 100000 in
theorem screen_Screen_Cells_runs {x0 x1 x2 : Value} {h : Heap} {R : Value → Heap → Prop} (H : screen_Screen_Cells_S x0 x1 x2 h R) : screen_Screen_Cells_c x0 x1 x2 h R := by
  unfold screen_Screen_Cells_S at H
  refine runs_of (b := ⟨([x0, x1, x2, undef, undef, undef, undef, undef, undef, undef, undef, undef, undef, undef, undef, undef, undef, undef, undef, undef, undef, undef, undef, undef, undef, undef, undef, undef, undef, undef, undef, undef, undef, undef, undef, undef, undef, undef, undef, undef, undef, undef, undef, undef, undef, undef, undef, undef, undef, undef] ++ [undef, undef, undef, undef, undef, undef, undef, undef, undef, undef, undef, undef, undef, undef, undef, undef, undef, undef, undef, undef, undef, undef, undef, undef, undef, undef, undef, undef, undef, undef, undef, undef, undef, undef, undef, undef, undef, undef, undef, undef, undef, undef, undef, undef, undef, undef, undef, undef, undef, undef] ++ [undef, undef, undef, undef, undef, undef, undef, undef, undef, undef, undef, undef]).toArray, []⟩) Tryd.call32 Tryd.func32 rfl (by kernel_rfl) (fun w0 HA => ?_)
  refine wp_seq ?_
  refine lwp_list ?_
  refine ls_move (x := x0) (by kernel_rfl) (by kernel_rfl) ?_
  refine ls_d (d := some 10) (by kernel_rfl) (by kernel_rfl) HA (d_call (by kernel_rfl) (by kernel_rfl) H) (fun x10 h w H HA => ?_)
  refine ls_assign (x := x10) (by kernel_rfl) (by kernel_rfl) ?_
  refine ls_nil ?_
  refine then_normal ?_
  refine fr_eq (b := ⟨([x0, x1, x2, undef, undef, undef, x10, undef, undef, x0, x10, undef, undef, undef, undef, undef, undef, undef, undef, undef, undef, undef, undef, undef, undef, undef, undef, undef, undef, undef, undef, undef, undef, undef, undef, undef, undef, undef, undef, undef, undef, undef, undef, undef, undef, undef, undef, undef, undef, undef] ++ [undef, undef, undef, undef, undef, undef, undef, undef, undef, undef, undef, undef, undef, undef, undef, undef, undef, undef, undef, undef, undef, undef, undef, undef, undef, undef, undef, undef, undef, undef, undef, undef, undef, undef, undef, undef, undef, undef, undef, undef, undef, undef, undef, undef, undef, undef, undef, undef, undef, undef] ++ [undef, undef, undef, undef, undef, undef, undef, undef, undef, undef, undef, undef]).toArray, []⟩) (by kernel_rfl) ?_
  refine wp_seq ?_
  refine lwp_list ?_
  refine ls_move (x := x10) (by kernel_rfl) (by kernel_rfl) ?_
  refine ls_p (d := some 12) (by kernel_rfl) (by kernel_rfl) (p_nil (by kernel_rfl) H) (fun x12 H => ?_)
  refine ls_p (d := some 13) (by kernel_rfl) (by kernel_rfl) (p_off Tryd.underlying38 rfl (fun w => ⟨_, Tryd.sizeOf4 w⟩) rfl (by kernel_rfl) H) (fun x13 H => ?_)
  refine ls_d (d := none) (by kernel_rfl) (by kernel_rfl) HA (d_st Tryd.sizeOf4 (by kernel_rfl) (by kernel_rfl) H) (fun _ h_1 w_1 H HA_1 => ?_)
  refine ls_nil ?_
  refine then_normal ?_
  refine fr_eq (b := ⟨([x0, x1, x2, undef, undef, undef, x10, undef, undef, x0, x10, x10, x12, x13, undef, undef, undef, undef, undef, undef, undef, undef, undef, undef, undef, undef, undef, undef, undef, undef, undef, undef, undef, undef, undef, undef, undef, undef, undef, undef, undef, undef, undef, undef, undef, undef, undef, undef, undef, undef] ++ [undef, undef, undef, undef, undef, undef, undef, undef, undef, undef, undef, undef, undef, undef, undef, undef, undef, undef, undef, undef, undef, undef, undef, undef, undef, undef, undef, undef, undef, undef, undef, undef, undef, undef, undef, undef, undef, undef, undef, undef, undef, undef, undef, undef, undef, undef, undef, undef, undef, undef] ++ [undef, undef, undef, undef, undef, undef, undef, undef, undef, undef, undef, undef]).toArray, []⟩) (by kernel_rfl) ?_
  refine wp_seq ?_
  refine lwp_qt (by kernel_rfl) (by kernel_rfl) HA_1 ?_
  refine lq_move (x := x1) (by kernel_rfl) (by kernel_rfl) ?_
  refine lq_move (x := x0) (by kernel_rfl) (by kernel_rfl) ?_
  refine lq_p (d := some 16) (by kernel_rfl) (by kernel_rfl) (p_nil (by kernel_rfl) H) (fun x16 H => ?_)
  refine lq_p (d := some 17) (by kernel_rfl) (by kernel_rfl) (p_off Tryd.underlying64 rfl (fun w => ⟨_, Tryd.sizeOf3 w⟩) rfl (by kernel_rfl) H) (fun x17 H => ?_)
  refine lq_y (d := some 18) (by kernel_rfl) (by kernel_rfl) HA_1 (y_ld Tryd.isAgg3 (by kernel_rfl) H) (fun x18 H => ?_)
  refine lq_move (x := x10) (by kernel_rfl) (by kernel_rfl) ?_
  refine lq_fr (b := ⟨([x0, x1, x2, undef, undef, undef, x10, undef, undef, x0, x10, x10, x12, x13, x1, x0, x16, x17, x18, x10, undef, undef, undef, undef, undef, undef, undef, undef, undef, undef, undef, undef, undef, undef, undef, undef, undef, undef, undef, undef, undef, undef, undef, undef, undef, undef, undef, undef, undef, undef] ++ [undef, undef, undef, undef, undef, undef, undef, undef, undef, undef, undef, undef, undef, undef, undef, undef, undef, undef, undef, undef, undef, undef, undef, undef, undef, undef, undef, undef, undef, undef, undef, undef, undef, undef, undef, undef, undef, undef, undef, undef, undef, undef, undef, undef, undef, undef, undef, undef, undef, undef] ++ [undef, undef, undef, undef, undef, undef, undef, undef, undef, undef, undef, undef]).toArray, []⟩) (by kernel_rfl) ?_
  refine lq_p (d := some 20) (by kernel_rfl) (by kernel_rfl) (p_nil (by kernel_rfl) H) (fun x20 H => ?_)
  refine lq_p (d := some 21) (by kernel_rfl) (by kernel_rfl) (p_off Tryd.underlying38 rfl (fun w => ⟨_, Tryd.sizeOf3 w⟩) rfl (by kernel_rfl) H) (fun x21 H => ?_)
  refine lq_y (d := some 22) (by kernel_rfl) (by kernel_rfl) HA_1 (y_ld Tryd.isAgg3 (by kernel_rfl) H) (fun x22 H => ?_)
  refine lq_p (d := some 23) (by kernel_rfl) (by kernel_rfl) (p_sub (by kernel_rfl) (by kernel_rfl) H) (fun x23 H => ?_)
  refine lq_p (d := some 24) (by kernel_rfl) (by kernel_rfl) (p_min (by kernel_rfl) (by kernel_rfl) H) (fun x24 H => ?_)
  refine lq_assign (x := x24) (by kernel_rfl) (by kernel_rfl) ?_
  refine lq_nil ?_
  intro w_2 HA_2
  refine then_normal ?_
  refine fr_eq (b := ⟨([x0, x24, x2, undef, undef, undef, x10, undef, undef, x0, x10, x10, x12, x13, x1, x0, x16, x17, x18, x10, x20, x21, x22, x23, x24, undef, undef, undef, undef, undef, undef, undef, undef, undef, undef, undef, undef, undef, undef, undef, undef, undef, undef, undef, undef, undef, undef, undef, undef, undef] ++ [undef, undef, undef, undef, undef, undef, undef, undef, undef, undef, undef, undef, undef, undef, undef, undef, undef, undef, undef, undef, undef, undef, undef, undef, undef, undef, undef, undef, undef, undef, undef, undef, undef, undef, undef, undef, undef, undef, undef, undef, undef, undef, undef, undef, undef, undef, undef, undef, undef, undef] ++ [undef, undef, undef, undef, undef, undef, undef, undef, undef, undef, undef, undef]).toArray, []⟩) (by kernel_rfl) ?_
  refine wp_seq ?_
  refine wp_seq ?_
  refine lwp_list ?_
  refine ls_move (x := x24) (by kernel_rfl) (by kernel_rfl) ?_
  refine ls_p (d := some 26) (by kernel_rfl) (by kernel_rfl) (p_sLt (by kernel_rfl) (by kernel_rfl) H) (fun x26 H => ?_)
  refine ls_nil ?_
  refine then_normal ?_
  refine fr_eq (b := ⟨([x0, x24, x2, undef, undef, undef, x10, undef, undef, x0, x10, x10, x12, x13, x1, x0, x16, x17, x18, x10, x20, x21, x22, x23, x24, x24, x26, undef, undef, undef, undef, undef, undef, undef, undef, undef, undef, undef, undef, undef, undef, undef, undef, undef, undef, undef, undef, undef, undef, undef] ++ [undef, undef, undef, undef, undef, undef, undef, undef, undef, undef, undef, undef, undef, undef, undef, undef, undef, undef, undef, undef, undef, undef, undef, undef, undef, undef, undef, undef, undef, undef, undef, undef, undef, undef, undef, undef, undef, undef, undef, undef, undef, undef, undef, undef, undef, undef, undef, undef, undef, undef] ++ [undef, undef, undef, undef, undef, undef, undef, undef, undef, undef, undef, undef]).toArray, []⟩) (by kernel_rfl) ?_
  refine wp_if rfl H (fun H => ?_) (fun H => ?_)
  · refine wp_ret ?_
    refine then_ret ?_
    exact end0 (Tryd.results32) (by kernel_rfl) HA_2 H _ (.inr rfl)
  · refine wp_skip ?_
    refine then_normal ?_
    refine fr_eq (b := ⟨([x0, x24, x2, undef, undef, undef, x10, undef, undef, x0, x10, x10, x12, x13, x1, x0, x16, x17, x18, x10, x20, x21, x22, x23, x24, x24, x26, undef, undef, undef, undef, undef, undef, undef, undef, undef, undef, undef, undef, undef, undef, undef, undef, undef, undef, undef, undef, undef, undef, undef] ++ [undef, undef, undef, undef, undef, undef, undef, undef, undef, undef, undef, undef, undef, undef, undef, undef, undef, undef, undef, undef, undef, undef, undef, undef, undef, undef, undef, undef, undef, undef, undef, undef, undef, undef, undef, undef, undef, undef, undef, undef, undef, undef, undef, undef, undef, undef, undef, undef, undef, undef] ++ [undef, undef, undef, undef, undef, undef, undef, undef, undef, undef, undef, undef]).toArray, []⟩) (by kernel_rfl) ?_
    refine wp_seq ?_
    refine lwp_qt (by kernel_rfl) (by kernel_rfl) HA_2 ?_
    refine lq_move (x := x0) (by kernel_rfl) (by kernel_rfl) ?_
    refine lq_p (d := some 28) (by kernel_rfl) (by kernel_rfl) (p_nil (by kernel_rfl) H) (fun x28 H => ?_)
    refine lq_p (d := some 29) (by kernel_rfl) (by kernel_rfl) (p_off Tryd.underlying64 rfl (fun w => ⟨_, Tryd.sizeOf3 w⟩) rfl (by kernel_rfl) H) (fun x29 H => ?_)
    refine lq_y (d := some 30) (by kernel_rfl) (by kernel_rfl) HA_2 (y_ld Tryd.isAgg3 (by kernel_rfl) H) (fun x30 H => ?_)
    refine lq_move (x := x10) (by kernel_rfl) (by kernel_rfl) ?_
    refine lq_p (d := some 32) (by kernel_rfl) (by kernel_rfl) (p_nil (by kernel_rfl) H) (fun x32 H => ?_)
    refine lq_fr (b := ⟨([x0, x24, x2, undef, undef, undef, x10, undef, undef, x0, x10, x10, x12, x13, x1, x0, x16, x17, x18, x10, x20, x21, x22, x23, x24, x24, x26, x0, x28, x29, x30, x10, x32, undef, undef, undef, undef, undef, undef, undef, undef, undef, undef, undef, undef, undef, undef, undef, undef, undef] ++ [undef, undef, undef, undef, undef, undef, undef, undef, undef, undef, undef, undef, undef, undef, undef, undef, undef, undef, undef, undef, undef, undef, undef, undef, undef, undef, undef, undef, undef, undef, undef, undef, undef, undef, undef, undef, undef, undef, undef, undef, undef, undef, undef, undef, undef, undef, undef, undef, undef, undef] ++ [undef, undef, undef, undef, undef, undef, undef, undef, undef, undef, undef, undef]).toArray, []⟩) (by kernel_rfl) ?_
    refine lq_p (d := some 33) (by kernel_rfl) (by kernel_rfl) (p_off Tryd.underlying38 rfl (fun w => ⟨_, Tryd.sizeOf3 w⟩) rfl (by kernel_rfl) H) (fun x33 H => ?_)
    refine lq_y (d := some 34) (by kernel_rfl) (by kernel_rfl) HA_2 (y_ld Tryd.isAgg3 (by kernel_rfl) H) (fun x34 H => ?_)
    refine lq_p (d := some 35) (by kernel_rfl) (by kernel_rfl) (p_sub (by kernel_rfl) (by kernel_rfl) H) (fun x35 H => ?_)
    refine lq_move (x := x24) (by kernel_rfl) (by kernel_rfl) ?_
    refine lq_p (d := some 37) (by kernel_rfl) (by kernel_rfl) (p_sub (by kernel_rfl) (by kernel_rfl) H) (fun x37 H => ?_)
    refine lq_move (x := x10) (by kernel_rfl) (by kernel_rfl) ?_
    refine lq_fr (b := ⟨([x0, x24, x2, undef, undef, undef, x10, undef, undef, x0, x10, x10, x12, x13, x1, x0, x16, x17, x18, x10, x20, x21, x22, x23, x24, x24, x26, x0, x28, x29, x30, x10, x32, x33, x34, x35, x24, x37, x10, undef, undef, undef, undef, undef, undef, undef, undef, undef, undef, undef] ++ [undef, undef, undef, undef, undef, undef, undef, undef, undef, undef, undef, undef, undef, undef, undef, undef, undef, undef, undef, undef, undef, undef, undef, undef, undef, undef, undef, undef, undef, undef, undef, undef, undef, undef, undef, undef, undef, undef, undef, undef, undef, undef, undef, undef, undef, undef, undef, undef, undef, undef] ++ [undef, undef, undef, undef, undef, undef, undef, undef, undef, undef, undef, undef]).toArray, []⟩) (by kernel_rfl) ?_
    refine lq_p (d := some 39) (by kernel_rfl) (by kernel_rfl) (p_nil (by kernel_rfl) H) (fun x39 H => ?_)
    refine lq_p (d := some 40) (by kernel_rfl) (by kernel_rfl) (p_off Tryd.underlying38 rfl (fun w => ⟨_, Tryd.sizeOf3 w⟩) rfl (by kernel_rfl) H) (fun x40 H => ?_)
    refine lq_y (d := some 41) (by kernel_rfl) (by kernel_rfl) HA_2 (y_ld Tryd.isAgg3 (by kernel_rfl) H) (fun x41 H => ?_)
    refine lq_move (x := x24) (by kernel_rfl) (by kernel_rfl) ?_
    refine lq_p (d := some 43) (by kernel_rfl) (by kernel_rfl) (p_add (by kernel_rfl) (by kernel_rfl) H) (fun x43 H => ?_)
    refine lq_assign (x := x37) (by kernel_rfl) (by kernel_rfl) ?_
    refine lq_fr (b := ⟨([x0, x24, x2, undef, undef, undef, x10, x37, undef, x0, x10, x10, x12, x13, x1, x0, x16, x17, x18, x10, x20, x21, x22, x23, x24, x24, x26, x0, x28, x29, x30, x10, x32, x33, x34, x35, x24, x37, x10, x39, x40, x41, x24, x43, undef, undef, undef, undef, undef, undef] ++ [undef, undef, undef, undef, undef, undef, undef, undef, undef, undef, undef, undef, undef, undef, undef, undef, undef, undef, undef, undef, undef, undef, undef, undef, undef, undef, undef, undef, undef, undef, undef, undef, undef, undef, undef, undef, undef, undef, undef, undef, undef, undef, undef, undef, undef, undef, undef, undef, undef, undef] ++ [undef, undef, undef, undef, undef, undef, undef, undef, undef, undef, undef, undef]).toArray, []⟩) (by kernel_rfl) ?_
    refine lq_assign (x := x43) (by kernel_rfl) (by kernel_rfl) ?_
    refine lq_nil ?_
    intro w_3 HA_3
    refine then_normal ?_
    refine fr_eq (b := ⟨([x0, x24, x2, undef, undef, undef, x10, x37, x43, x0, x10, x10, x12, x13, x1, x0, x16, x17, x18, x10, x20, x21, x22, x23, x24, x24, x26, x0, x28, x29, x30, x10, x32, x33, x34, x35, x24, x37, x10, x39, x40, x41, x24, x43, undef, undef, undef, undef, undef, undef] ++ [undef, undef, undef, undef, undef, undef, undef, undef, undef, undef, undef, undef, undef, undef, undef, undef, undef, undef, undef, undef, undef, undef, undef, undef, undef, undef, undef, undef, undef, undef, undef, undef, undef, undef, undef, undef, undef, undef, undef, undef, undef, undef, undef, undef, undef, undef, undef, undef, undef, undef] ++ [undef, undef, undef, undef, undef, undef, undef, undef, undef, undef, undef, undef]).toArray, []⟩) (by kernel_rfl) ?_
    refine wp_seq ?_
    refine wp_seq ?_
    refine lwp_list ?_
    refine ls_move (x := x2) (by kernel_rfl) (by kernel_rfl) ?_
    refine ls_nil ?_
    refine then_normal ?_
    refine fr_eq (b := ⟨([x0, x24, x2, undef, undef, undef, x10, x37, x43, x0, x10, x10, x12, x13, x1, x0, x16, x17, x18, x10, x20, x21, x22, x23, x24, x24, x26, x0, x28, x29, x30, x10, x32, x33, x34, x35, x24, x37, x10, x39, x40, x41, x24, x43, x2, undef, undef, undef, undef, undef] ++ [undef, undef, undef, undef, undef, undef, undef, undef, undef, undef, undef, undef, undef, undef, undef, undef, undef, undef, undef, undef, undef, undef, undef, undef, undef, undef, undef, undef, undef, undef, undef, undef, undef, undef, undef, undef, undef, undef, undef, undef, undef, undef, undef, undef, undef, undef, undef, undef, undef, undef] ++ [undef, undef, undef, undef, undef, undef, undef, undef, undef, undef, undef, undef]).toArray, []⟩) (by kernel_rfl) ?_
    refine wp_if rfl H (fun H => ?_) (fun H => ?_)
    · refine wp_seq ?_
      refine lwp_mx (Nat.testBit 524288) (Nat.testBit 0) (Nat.testBit 259959) [0, 1, 3, 7, 0, 16, 48, 112, 0, 256, 768, 1792, 0, 8176, 0, 0, 32768, 98304, 229376, 524287] (Nat.testBit 0) (fun h' => h' = h_1) [0, 1, 2, 3, 4, 5, 6, 7, 8, 9, 10, 11, 12, 13, 14, 15, 16, 17, 18, 19] (by kernel_rfl) (by kernel_rfl) (by kernel_rfl) (by kernel_rfl) HA_3 rfl ?_
      intro w_4 HA_4
      refine lm_al (x := x0) (d := some 45) (by kernel_rfl) rfl (by kernel_rfl) (by kernel_rfl) (al_move (by kernel_rfl)) ?_
      refine lm_p (d := some 46) (by kernel_rfl) rfl (by kernel_rfl) (by kernel_rfl) (p_nil (by kernel_rfl) H) (fun x46 H => ?_)
      refine lm_p (d := some 47) (by kernel_rfl) rfl (by kernel_rfl) (by kernel_rfl) (p_off Tryd.underlying64 rfl (fun w => ⟨_, Tryd.sizeOf54 w⟩) rfl (by kernel_rfl) H) (fun x47 H => ?_)
      refine lm_f (d := some 48) (by kernel_rfl) rfl (by kernel_rfl) (by kernel_rfl) (by kernel_rfl) (by kernel_rfl) (of_eq (y_ld Tryd.isAgg54 (by kernel_rfl) H)) (fun x48 H => ?_)
      refine lm_al (x := x10) (d := some 49) (by kernel_rfl) rfl (by kernel_rfl) (by kernel_rfl) (al_move (by kernel_rfl)) ?_
      refine lm_p (d := some 50) (by kernel_rfl) rfl (by kernel_rfl) (by kernel_rfl) (p_nil (by kernel_rfl) H) (fun x50 H => ?_)
      refine lm_fr (b := ⟨([x0, x24, x2, undef, undef, undef, x10, x37, x43, x0, x10, x10, x12, x13, x1, x0, x16, x17, x18, x10, x20, x21, x22, x23, x24, x24, x26, x0, x28, x29, x30, x10, x32, x33, x34, x35, x24, x37, x10, x39, x40, x41, x24, x43, x2, x0, x46, x47, x48, x10] ++ [x50, undef, undef, undef, undef, undef, undef, undef, undef, undef, undef, undef, undef, undef, undef, undef, undef, undef, undef, undef, undef, undef, undef, undef, undef, undef, undef, undef, undef, undef, undef, undef, undef, undef, undef, undef, undef, undef, undef, undef, undef, undef, undef, undef, undef, undef, undef, undef, undef, undef] ++ [undef, undef, undef, undef, undef, undef, undef, undef, undef, undef, undef, undef]).toArray, []⟩) (by kernel_rfl) ?_
      refine lm_p (d := some 51) (by kernel_rfl) rfl (by kernel_rfl) (by kernel_rfl) (p_off Tryd.underlying38 rfl (fun w => ⟨_, Tryd.sizeOf3 w⟩) rfl (by kernel_rfl) H) (fun x51 H => ?_)
      refine lm_f (d := some 52) (by kernel_rfl) rfl (by kernel_rfl) (by kernel_rfl) (by kernel_rfl) (by kernel_rfl) (of_eq (y_ld Tryd.isAgg3 (by kernel_rfl) H)) (fun x52 H => ?_)
      refine lm_al (x := x10) (d := some 53) (by kernel_rfl) rfl (by kernel_rfl) (by kernel_rfl) (al_move (by kernel_rfl)) ?_
      refine lm_p (d := some 54) (by kernel_rfl) rfl (by kernel_rfl) (by kernel_rfl) (p_nil (by kernel_rfl) H) (fun x54 H => ?_)
      refine lm_p (d := some 55) (by kernel_rfl) rfl (by kernel_rfl) (by kernel_rfl) (p_off Tryd.underlying38 rfl (fun w => ⟨_, Tryd.sizeOf3 w⟩) rfl (by kernel_rfl) H) (fun x55 H => ?_)
      refine lm_f (d := some 56) (by kernel_rfl) rfl (by kernel_rfl) (by kernel_rfl) (by kernel_rfl) (by kernel_rfl) (of_eq (y_ld Tryd.isAgg3 (by kernel_rfl) H)) (fun x56 H => ?_)
      refine lm_fr (b := ⟨([x0, x24, x2, undef, undef, undef, x10, x37, x43, x0, x10, x10, x12, x13, x1, x0, x16, x17, x18, x10, x20, x21, x22, x23, x24, x24, x26, x0, x28, x29, x30, x10, x32, x33, x34, x35, x24, x37, x10, x39, x40, x41, x24, x43, x2, x0, x46, x47, x48, x10] ++ [x50, x51, x52, x10, x54, x55, x56, undef, undef, undef, undef, undef, undef, undef, undef, undef, undef, undef, undef, undef, undef, undef, undef, undef, undef, undef, undef, undef, undef, undef, undef, undef, undef, undef, undef, undef, undef, undef, undef, undef, undef, undef, undef, undef, undef, undef, undef, undef, undef, undef] ++ [undef, undef, undef, undef, undef, undef, undef, undef, undef, undef, undef, undef]).toArray, []⟩) (by kernel_rfl) ?_
      refine lm_al (x := x37) (d := some 57) (by kernel_rfl) rfl (by kernel_rfl) (by kernel_rfl) (al_move (by kernel_rfl)) ?_
      refine lm_p (d := some 58) (by kernel_rfl) rfl (by kernel_rfl) (by kernel_rfl) (p_lit (pl := [(0, 1), (1, 1), (2, 1), (3, 1)]) Tryd.zeroValue83 Tryd.underlying83 ⟨(by kernel_rfl), Tryd.sizeOf3, (by kernel_rfl), Tryd.sizeOf3, (by kernel_rfl), Tryd.sizeOf3, (by kernel_rfl), Tryd.sizeOf3, trivial⟩ (by kernel_rfl) (by kernel_rfl) H) (fun x58 H => ?_)
      refine lm_al (x := x43) (d := some 59) (by kernel_rfl) rfl (by kernel_rfl) (by kernel_rfl) (al_move (by kernel_rfl)) ?_
      refine lm_al (x := x10) (d := some 60) (by kernel_rfl) rfl (by kernel_rfl) (by kernel_rfl) (al_move (by kernel_rfl)) ?_
      refine lm_p (d := some 61) (by kernel_rfl) rfl (by kernel_rfl) (by kernel_rfl) (p_nil (by kernel_rfl) H) (fun x61 H => ?_)
      refine lm_p (d := some 62) (by kernel_rfl) rfl (by kernel_rfl) (by kernel_rfl) (p_off Tryd.underlying38 rfl (fun w => ⟨_, Tryd.sizeOf3 w⟩) rfl (by kernel_rfl) H) (fun x62 H => ?_)
      refine lm_fr (b := ⟨([x0, x24, x2, undef, undef, undef, x10, x37, x43, x0, x10, x10, x12, x13, x1, x0, x16, x17, x18, x10, x20, x21, x22, x23, x24, x24, x26, x0, x28, x29, x30, x10, x32, x33, x34, x35, x24, x37, x10, x39, x40, x41, x24, x43, x2, x0, x46, x47, x48, x10] ++ [x50, x51, x52, x10, x54, x55, x56, x37, x58, x43, x10, x61, x62, undef, undef, undef, undef, undef, undef, undef, undef, undef, undef, undef, undef, undef, undef, undef, undef, undef, undef, undef, undef, undef, undef, undef, undef, undef, undef, undef, undef, undef, undef, undef, undef, undef, undef, undef, undef, undef] ++ [undef, undef, undef, undef, undef, undef, undef, undef, undef, undef, undef, undef]).toArray, []⟩) (by kernel_rfl) ?_
      refine lm_f (d := some 63) (by kernel_rfl) rfl (by kernel_rfl) (by kernel_rfl) (by kernel_rfl) (by kernel_rfl) (of_eq (y_ld Tryd.isAgg3 (by kernel_rfl) H)) (fun x63 H => ?_)
      refine lm_d (d := some 64) (by kernel_rfl) rfl (by kernel_rfl) (by kernel_rfl) (by kernel_rfl) HA_4 (d_call (by kernel_rfl) (by kernel_rfl) H) (fun x64 h_2 w_5 H HA_5 => ?_)
      refine lm_nil ?_
      refine then_normal ?_
      refine fr_eq (b := ⟨([x0, x24, x2, undef, undef, undef, x10, x37, x43, x0, x10, x10, x12, x13, x1, x0, x16, x17, x18, x10, x20, x21, x22, x23, x24, x24, x26, x0, x28, x29, x30, x10, x32, x33, x34, x35, x24, x37, x10, x39, x40, x41, x24, x43, x2, x0, x46, x47, x48, x10] ++ [x50, x51, x52, x10, x54, x55, x56, x37, x58, x43, x10, x61, x62, x63, x64, undef, undef, undef, undef, undef, undef, undef, undef, undef, undef, undef, undef, undef, undef, undef, undef, undef, undef, undef, undef, undef, undef, undef, undef, undef, undef, undef, undef, undef, undef, undef, undef, undef, undef, undef] ++ [undef, undef, undef, undef, undef, undef, undef, undef, undef, undef, undef, undef]).toArray, []⟩) (by kernel_rfl) ?_
      refine wp_seq ?_
      refine lwp_mx (Nat.testBit 1024) (Nat.testBit 0) (Nat.testBit 751) [0, 0, 2, 6, 14, 0, 32, 96, 224, 0, 1023] (Nat.testBit 0) (fun h' => h' = h_2) [0, 1, 2, 3, 4, 5, 6, 7, 8, 9, 10] (by kernel_rfl) (by kernel_rfl) (by kernel_rfl) (by kernel_rfl) HA_5 rfl ?_
      intro w_6 HA_6
      refine lm_al (x := x0) (d := some 65) (by kernel_rfl) rfl (by kernel_rfl) (by kernel_rfl) (al_move (by kernel_rfl)) ?_
      refine lm_al (x := x10) (d := some 66) (by kernel_rfl) rfl (by kernel_rfl) (by kernel_rfl) (al_move (by kernel_rfl)) ?_
      refine lm_p (d := some 67) (by kernel_rfl) rfl (by kernel_rfl) (by kernel_rfl) (p_nil (by kernel_rfl) H) (fun x67 H => ?_)
      refine lm_p (d := some 68) (by kernel_rfl) rfl (by kernel_rfl) (by kernel_rfl) (p_off Tryd.underlying38 rfl (fun w => ⟨_, Tryd.sizeOf3 w⟩) rfl (by kernel_rfl) H) (fun x68 H => ?_)
      refine lm_f (d := some 69) (by kernel_rfl) rfl (by kernel_rfl) (by kernel_rfl) (by kernel_rfl) (by kernel_rfl) (of_eq (y_ld Tryd.isAgg3 (by kernel_rfl) H)) (fun x69 H => ?_)
      refine lm_al (x := x10) (d := some 70) (by kernel_rfl) rfl (by kernel_rfl) (by kernel_rfl) (al_move (by kernel_rfl)) ?_
      refine lm_fr (b := ⟨([x0, x24, x2, undef, undef, undef, x10, x37, x43, x0, x10, x10, x12, x13, x1, x0, x16, x17, x18, x10, x20, x21, x22, x23, x24, x24, x26, x0, x28, x29, x30, x10, x32, x33, x34, x35, x24, x37, x10, x39, x40, x41, x24, x43, x2, x0, x46, x47, x48, x10] ++ [x50, x51, x52, x10, x54, x55, x56, x37, x58, x43, x10, x61, x62, x63, x64, x0, x10, x67, x68, x69, x10, undef, undef, undef, undef, undef, undef, undef, undef, undef, undef, undef, undef, undef, undef, undef, undef, undef, undef, undef, undef, undef, undef, undef, undef, undef, undef, undef, undef, undef] ++ [undef, undef, undef, undef, undef, undef, undef, undef, undef, undef, undef, undef]).toArray, []⟩) (by kernel_rfl) ?_
      refine lm_p (d := some 71) (by kernel_rfl) rfl (by kernel_rfl) (by kernel_rfl) (p_nil (by kernel_rfl) H) (fun x71 H => ?_)
      refine lm_p (d := some 72) (by kernel_rfl) rfl (by kernel_rfl) (by kernel_rfl) (p_off Tryd.underlying38 rfl (fun w => ⟨_, Tryd.sizeOf3 w⟩) rfl (by kernel_rfl) H) (fun x72 H => ?_)
      refine lm_f (d := some 73) (by kernel_rfl) rfl (by kernel_rfl) (by kernel_rfl) (by kernel_rfl) (by kernel_rfl) (of_eq (y_ld Tryd.isAgg3 (by kernel_rfl) H)) (fun x73 H => ?_)
      refine lm_al (x := x43) (d := some 74) (by kernel_rfl) rfl (by kernel_rfl) (by kernel_rfl) (al_move (by kernel_rfl)) ?_
      refine lm_d (d := some 75) (by kernel_rfl) rfl (by kernel_rfl) (by kernel_rfl) (by kernel_rfl) HA_6 (d_call (by kernel_rfl) (by kernel_rfl) H) (fun x75 h_3 w_7 H HA_7 => ?_)
      refine lm_nil ?_
      refine then_normal ?_
      refine fr_eq (b := ⟨([x0, x24, x2, undef, undef, undef, x10, x37, x43, x0, x10, x10, x12, x13, x1, x0, x16, x17, x18, x10, x20, x21, x22, x23, x24, x24, x26, x0, x28, x29, x30, x10, x32, x33, x34, x35, x24, x37, x10, x39, x40, x41, x24, x43, x2, x0, x46, x47, x48, x10] ++ [x50, x51, x52, x10, x54, x55, x56, x37, x58, x43, x10, x61, x62, x63, x64, x0, x10, x67, x68, x69, x10, x71, x72, x73, x43, x75, undef, undef, undef, undef, undef, undef, undef, undef, undef, undef, undef, undef, undef, undef, undef, undef, undef, undef, undef, undef, undef, undef, undef, undef] ++ [undef, undef, undef, undef, undef, undef, undef, undef, undef, undef, undef, undef]).toArray, []⟩) (by kernel_rfl) ?_
      refine wp_ret ?_
      refine then_ret ?_
      exact end0 (Tryd.results32) (by kernel_rfl) HA_7 H _ (.inr rfl)
    · refine wp_skip ?_
      refine then_normal ?_
      refine fr_eq (b := ⟨([x0, x24, x2, undef, undef, undef, x10, x37, x43, x0, x10, x10, x12, x13, x1, x0, x16, x17, x18, x10, x20, x21, x22, x23, x24, x24, x26, x0, x28, x29, x30, x10, x32, x33, x34, x35, x24, x37, x10, x39, x40, x41, x24, x43, x2, undef, undef, undef, undef, undef] ++ [undef, undef, undef, undef, undef, undef, undef, undef, undef, undef, undef, undef, undef, undef, undef, undef, undef, undef, undef, undef, undef, undef, undef, undef, undef, undef, undef, undef, undef, undef, undef, undef, undef, undef, undef, undef, undef, undef, undef, undef, undef, undef, undef, undef, undef, undef, undef, undef, undef, undef] ++ [undef, undef, undef, undef, undef, undef, undef, undef, undef, undef, undef, undef]).toArray, []⟩) (by kernel_rfl) ?_
      refine wp_seq ?_
      refine lwp_mx (Nat.testBit 524288) (Nat.testBit 0) (Nat.testBit 245495) [0, 1, 3, 7, 0, 0, 32, 96, 224, 0, 1008, 0, 2048, 6144, 14336, 0, 32768, 98304, 229376, 524287] (Nat.testBit 0) (fun h' => h' = h_1) [0, 1, 2, 3, 4, 5, 6, 7, 8, 9, 10, 11, 12, 13, 14, 15, 16, 17, 18, 19] (by kernel_rfl) (by kernel_rfl) (by kernel_rfl) (by kernel_rfl) HA_3 rfl ?_
      intro w_8 HA_8
      refine lm_al (x := x0) (d := some 76) (by kernel_rfl) rfl (by kernel_rfl) (by kernel_rfl) (al_move (by kernel_rfl)) ?_
      refine lm_p (d := some 77) (by kernel_rfl) rfl (by kernel_rfl) (by kernel_rfl) (p_nil (by kernel_rfl) H) (fun x77 H => ?_)
      refine lm_p (d := some 78) (by kernel_rfl) rfl (by kernel_rfl) (by kernel_rfl) (p_off Tryd.underlying64 rfl (fun w => ⟨_, Tryd.sizeOf54 w⟩) rfl (by kernel_rfl) H) (fun x78 H => ?_)
      refine lm_f (d := some 79) (by kernel_rfl) rfl (by kernel_rfl) (by kernel_rfl) (by kernel_rfl) (by kernel_rfl) (of_eq (y_ld Tryd.isAgg54 (by kernel_rfl) H)) (fun x79 H => ?_)
      refine lm_al (x := x43) (d := some 80) (by kernel_rfl) rfl (by kernel_rfl) (by kernel_rfl) (al_move (by kernel_rfl)) ?_
      refine lm_al (x := x10) (d := some 81) (by kernel_rfl) rfl (by kernel_rfl) (by kernel_rfl) (al_move (by kernel_rfl)) ?_
      refine lm_fr (b := ⟨([x0, x24, x2, undef, undef, undef, x10, x37, x43, x0, x10, x10, x12, x13, x1, x0, x16, x17, x18, x10, x20, x21, x22, x23, x24, x24, x26, x0, x28, x29, x30, x10, x32, x33, x34, x35, x24, x37, x10, x39, x40, x41, x24, x43, x2, undef, undef, undef, undef, undef] ++ [undef, undef, undef, undef, undef, undef, undef, undef, undef, undef, undef, undef, undef, undef, undef, undef, undef, undef, undef, undef, undef, undef, undef, undef, undef, undef, x0, x77, x78, x79, x43, x10, undef, undef, undef, undef, undef, undef, undef, undef, undef, undef, undef, undef, undef, undef, undef, undef, undef, undef] ++ [undef, undef, undef, undef, undef, undef, undef, undef, undef, undef, undef, undef]).toArray, []⟩) (by kernel_rfl) ?_
      refine lm_p (d := some 82) (by kernel_rfl) rfl (by kernel_rfl) (by kernel_rfl) (p_nil (by kernel_rfl) H) (fun x82 H => ?_)
      refine lm_p (d := some 83) (by kernel_rfl) rfl (by kernel_rfl) (by kernel_rfl) (p_off Tryd.underlying38 rfl (fun w => ⟨_, Tryd.sizeOf3 w⟩) rfl (by kernel_rfl) H) (fun x83 H => ?_)
      refine lm_f (d := some 84) (by kernel_rfl) rfl (by kernel_rfl) (by kernel_rfl) (by kernel_rfl) (by kernel_rfl) (of_eq (y_ld Tryd.isAgg3 (by kernel_rfl) H)) (fun x84 H => ?_)
      refine lm_al (x := x37) (d := some 85) (by kernel_rfl) rfl (by kernel_rfl) (by kernel_rfl) (al_move (by kernel_rfl)) ?_
      refine lm_p (d := some 86) (by kernel_rfl) rfl (by kernel_rfl) (by kernel_rfl) (p_lit (pl := [(0, 1), (1, 1), (2, 1), (3, 1)]) Tryd.zeroValue83 Tryd.underlying83 ⟨(by kernel_rfl), Tryd.sizeOf3, (by kernel_rfl), Tryd.sizeOf3, (by kernel_rfl), Tryd.sizeOf3, (by kernel_rfl), Tryd.sizeOf3, trivial⟩ (by kernel_rfl) (by kernel_rfl) H) (fun x86 H => ?_)
      refine lm_al (x := x10) (d := some 87) (by kernel_rfl) rfl (by kernel_rfl) (by kernel_rfl) (al_move (by kernel_rfl)) ?_
      refine lm_fr (b := ⟨([x0, x24, x2, undef, undef, undef, x10, x37, x43, x0, x10, x10, x12, x13, x1, x0, x16, x17, x18, x10, x20, x21, x22, x23, x24, x24, x26, x0, x28, x29, x30, x10, x32, x33, x34, x35, x24, x37, x10, x39, x40, x41, x24, x43, x2, undef, undef, undef, undef, undef] ++ [undef, undef, undef, undef, undef, undef, undef, undef, undef, undef, undef, undef, undef, undef, undef, undef, undef, undef, undef, undef, undef, undef, undef, undef, undef, undef, x0, x77, x78, x79, x43, x10, x82, x83, x84, x37, x86, x10, undef, undef, undef, undef, undef, undef, undef, undef, undef, undef, undef, undef] ++ [undef, undef, undef, undef, undef, undef, undef, undef, undef, undef, undef, undef]).toArray, []⟩) (by kernel_rfl) ?_
      refine lm_p (d := some 88) (by kernel_rfl) rfl (by kernel_rfl) (by kernel_rfl) (p_nil (by kernel_rfl) H) (fun x88 H => ?_)
      refine lm_p (d := some 89) (by kernel_rfl) rfl (by kernel_rfl) (by kernel_rfl) (p_off Tryd.underlying38 rfl (fun w => ⟨_, Tryd.sizeOf3 w⟩) rfl (by kernel_rfl) H) (fun x89 H => ?_)
      refine lm_f (d := some 90) (by kernel_rfl) rfl (by kernel_rfl) (by kernel_rfl) (by kernel_rfl) (by kernel_rfl) (of_eq (y_ld Tryd.isAgg3 (by kernel_rfl) H)) (fun x90 H => ?_)
      refine lm_al (x := x10) (d := some 91) (by kernel_rfl) rfl (by kernel_rfl) (by kernel_rfl) (al_move (by kernel_rfl)) ?_
      refine lm_p (d := some 92) (by kernel_rfl) rfl (by kernel_rfl) (by kernel_rfl) (p_nil (by kernel_rfl) H) (fun x92 H => ?_)
      refine lm_p (d := some 93) (by kernel_rfl) rfl (by kernel_rfl) (by kernel_rfl) (p_off Tryd.underlying38 rfl (fun w => ⟨_, Tryd.sizeOf3 w⟩) rfl (by kernel_rfl) H) (fun x93 H => ?_)
      refine lm_fr (b := ⟨([x0, x24, x2, undef, undef, undef, x10, x37, x43, x0, x10, x10, x12, x13, x1, x0, x16, x17, x18, x10, x20, x21, x22, x23, x24, x24, x26, x0, x28, x29, x30, x10, x32, x33, x34, x35, x24, x37, x10, x39, x40, x41, x24, x43, x2, undef, undef, undef, undef, undef] ++ [undef, undef, undef, undef, undef, undef, undef, undef, undef, undef, undef, undef, undef, undef, undef, undef, undef, undef, undef, undef, undef, undef, undef, undef, undef, undef, x0, x77, x78, x79, x43, x10, x82, x83, x84, x37, x86, x10, x88, x89, x90, x10, x92, x93, undef, undef, undef, undef, undef, undef] ++ [undef, undef, undef, undef, undef, undef, undef, undef, undef, undef, undef, undef]).toArray, []⟩) (by kernel_rfl) ?_
      refine lm_f (d := some 94) (by kernel_rfl) rfl (by kernel_rfl) (by kernel_rfl) (by kernel_rfl) (by kernel_rfl) (of_eq (y_ld Tryd.isAgg3 (by kernel_rfl) H)) (fun x94 H => ?_)
      refine lm_d (d := some 95) (by kernel_rfl) rfl (by kernel_rfl) (by kernel_rfl) (by kernel_rfl) HA_8 (d_call (by kernel_rfl) (by kernel_rfl) H) (fun x95 h_4 w_9 H HA_9 => ?_)
      refine lm_nil ?_
      refine then_normal ?_
      refine fr_eq (b := ⟨([x0, x24, x2, undef, undef, undef, x10, x37, x43, x0, x10, x10, x12, x13, x1, x0, x16, x17, x18, x10, x20, x21, x22, x23, x24, x24, x26, x0, x28, x29, x30, x10, x32, x33, x34, x35, x24, x37, x10, x39, x40, x41, x24, x43, x2, undef, undef, undef, undef, undef] ++ [undef, undef, undef, undef, undef, undef, undef, undef, undef, undef, undef, undef, undef, undef, undef, undef, undef, undef, undef, undef, undef, undef, undef, undef, undef, undef, x0, x77, x78, x79, x43, x10, x82, x83, x84, x37, x86, x10, x88, x89, x90, x10, x92, x93, x94, x95, undef, undef, undef, undef] ++ [undef, undef, undef, undef, undef, undef, undef, undef, undef, undef, undef, undef]).toArray, []⟩) (by kernel_rfl) ?_
      refine lwp_mx (Nat.testBit 32768) (Nat.testBit 0) (Nat.testBit 16111) [0, 0, 2, 6, 14, 0, 32, 96, 224, 0, 992, 0, 2048, 6144, 14336, 32767] (Nat.testBit 0) (fun h' => h' = h_4) [0, 1, 2, 3, 4, 5, 6, 7, 8, 9, 10, 11, 12, 13, 14, 15] (by kernel_rfl) (by kernel_rfl) (by kernel_rfl) (by kernel_rfl) HA_9 rfl ?_
      intro w_10 HA_10
      refine lm_al (x := x0) (d := some 96) (by kernel_rfl) rfl (by kernel_rfl) (by kernel_rfl) (al_move (by kernel_rfl)) ?_
      refine lm_al (x := x10) (d := some 97) (by kernel_rfl) rfl (by kernel_rfl) (by kernel_rfl) (al_move (by kernel_rfl)) ?_
      refine lm_p (d := some 98) (by kernel_rfl) rfl (by kernel_rfl) (by kernel_rfl) (p_nil (by kernel_rfl) H) (fun x98 H => ?_)
      refine lm_p (d := some 99) (by kernel_rfl) rfl (by kernel_rfl) (by kernel_rfl) (p_off Tryd.underlying38 rfl (fun w => ⟨_, Tryd.sizeOf3 w⟩) rfl (by kernel_rfl) H) (fun x99 H => ?_)
      refine lm_f (d := some 100) (by kernel_rfl) rfl (by kernel_rfl) (by kernel_rfl) (by kernel_rfl) (by kernel_rfl) (of_eq (y_ld Tryd.isAgg3 (by kernel_rfl) H)) (fun x100 H => ?_)
      refine lm_al (x := x0) (d := some 101) (by kernel_rfl) rfl (by kernel_rfl) (by kernel_rfl) (al_move (by kernel_rfl)) ?_
      refine lm_fr (b := ⟨([x0, x24, x2, undef, undef, undef, x10, x37, x43, x0, x10, x10, x12, x13, x1, x0, x16, x17, x18, x10, x20, x21, x22, x23, x24, x24, x26, x0, x28, x29, x30, x10, x32, x33, x34, x35, x24, x37, x10, x39, x40, x41, x24, x43, x2, undef, undef, undef, undef, undef] ++ [undef, undef, undef, undef, undef, undef, undef, undef, undef, undef, undef, undef, undef, undef, undef, undef, undef, undef, undef, undef, undef, undef, undef, undef, undef, undef, x0, x77, x78, x79, x43, x10, x82, x83, x84, x37, x86, x10, x88, x89, x90, x10, x92, x93, x94, x95, x0, x10, x98, x99] ++ [x100, x0, undef, undef, undef, undef, undef, undef, undef, undef, undef, undef]).toArray, []⟩) (by kernel_rfl) ?_
      refine lm_p (d := some 102) (by kernel_rfl) rfl (by kernel_rfl) (by kernel_rfl) (p_nil (by kernel_rfl) H) (fun x102 H => ?_)
      refine lm_p (d := some 103) (by kernel_rfl) rfl (by kernel_rfl) (by kernel_rfl) (p_off Tryd.underlying64 rfl (fun w => ⟨_, Tryd.sizeOf3 w⟩) rfl (by kernel_rfl) H) (fun x103 H => ?_)
      refine lm_f (d := some 104) (by kernel_rfl) rfl (by kernel_rfl) (by kernel_rfl) (by kernel_rfl) (by kernel_rfl) (of_eq (y_ld Tryd.isAgg3 (by kernel_rfl) H)) (fun x104 H => ?_)
      refine lm_al (x := x24) (d := some 105) (by kernel_rfl) rfl (by kernel_rfl) (by kernel_rfl) (al_move (by kernel_rfl)) ?_
      refine lm_p (d := some 106) (by kernel_rfl) rfl (by kernel_rfl) (by kernel_rfl) (p_sub (by kernel_rfl) (by kernel_rfl) H) (fun x106 H => ?_)
      refine lm_al (x := x0) (d := some 107) (by kernel_rfl) rfl (by kernel_rfl) (by kernel_rfl) (al_move (by kernel_rfl)) ?_
      refine lm_fr (b := ⟨([x0, x24, x2, undef, undef, undef, x10, x37, x43, x0, x10, x10, x12, x13, x1, x0, x16, x17, x18, x10, x20, x21, x22, x23, x24, x24, x26, x0, x28, x29, x30, x10, x32, x33, x34, x35, x24, x37, x10, x39, x40, x41, x24, x43, x2, undef, undef, undef, undef, undef] ++ [undef, undef, undef, undef, undef, undef, undef, undef, undef, undef, undef, undef, undef, undef, undef, undef, undef, undef, undef, undef, undef, undef, undef, undef, undef, undef, x0, x77, x78, x79, x43, x10, x82, x83, x84, x37, x86, x10, x88, x89, x90, x10, x92, x93, x94, x95, x0, x10, x98, x99] ++ [x100, x0, x102, x103, x104, x24, x106, x0, undef, undef, undef, undef]).toArray, []⟩) (by kernel_rfl) ?_
      refine lm_p (d := some 108) (by kernel_rfl) rfl (by kernel_rfl) (by kernel_rfl) (p_nil (by kernel_rfl) H) (fun x108 H => ?_)
      refine lm_p (d := some 109) (by kernel_rfl) rfl (by kernel_rfl) (by kernel_rfl) (p_off Tryd.underlying64 rfl (fun w => ⟨_, Tryd.sizeOf3 w⟩) rfl (by kernel_rfl) H) (fun x109 H => ?_)
      refine lm_f (d := some 110) (by kernel_rfl) rfl (by kernel_rfl) (by kernel_rfl) (by kernel_rfl) (by kernel_rfl) (of_eq (y_ld Tryd.isAgg3 (by kernel_rfl) H)) (fun x110 H => ?_)
      refine lm_d (d := some 111) (by kernel_rfl) rfl (by kernel_rfl) (by kernel_rfl) (by kernel_rfl) HA_10 (d_call (by kernel_rfl) (by kernel_rfl) H) (fun x111 h_5 w_11 H HA_11 => ?_)
      refine lm_nil ?_
      exact end0 (Tryd.results32) (by kernel_rfl) HA_11 H _ (.inl rfl)

end Go.Proofs.YtmhhjpfkipficaaDoor

end
