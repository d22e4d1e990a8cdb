/- What is said of blocks that nobody writes any more. -/
import Derived.Test.YtjlpgakoedigoaaDoorHwB
set_option linter.unusedSimpArgs false
set_option linter.unusedVariables false
namespace Go.Proofs.YtjlpgakoedigoaaDoor
open Go Go.HW

theorem idx_perm (L : List HP) (idx : List Nat) (h : idx.Perm (List.range L.length)) : L.Perm (idx.map fun i => L.getD i HP.emp) := by
  have e : (List.range L.length).map (fun i => L.getD i HP.emp) = L := by
    refine List.ext_getElem (by simp) (fun i h1 h2 => ?_)
    simp [List.getD_eq_getElem?_getD, List.getElem?_eq_getElem h2]
  have := (h.map fun i => L.getD i HP.emp).symm
  rwa [e] at this
/-- The first ones in another order. -/
theorem selF {h0 h : Heap} {F L : List HP} (s : HW.Sep h0 (L ++ F) h) (idx : List Nat) (hn : L.length = idx.length) (hp : idx.Perm (List.range idx.length)) : HW.Sep h0 ((idx.map fun i => L.getD i HP.emp) ++ F) h := s.perm ((idx_perm L idx (hn ▸ hp)).append_right F)

structure FQ where
  P : (Nat → Prop) → Heap → Prop
  loc : ∀ {s : Nat → Prop} {h h' : Heap}, P s h → (∀ b, s b → h'[b]? = h[b]?) → P s h'
  mono : ∀ {s t : Nat → Prop} {h : Heap}, P s h → (∀ b, s b → t b) → P t h
def Fr (A : FQ) : HP where
  P s h := (∀ b, s b → b < h.size) ∧ A.P s h
  loc := fun {s h h'} p e => ⟨fun b hb => by
      have e := e b hb
      rw [Array.getElem?_eq_getElem (p.1 b hb)] at e
      exact (Array.getElem?_eq_some_iff.1 e).1, A.loc p.2 e⟩
  dom := fun p => p.1
section
variable {α : Type}
theorem seq_keepG {enc : α → List Value} {sz : Nat} {h h' : Heap} {v : Value} {l : List α} (a : Seq enc sz h v l) (e : ∀ b o n m, v = .slice (some ⟨b, o, none⟩) n m → l ≠ [] → h'[b]? = h[b]?) : Seq enc sz h' v l := by
  obtain ⟨a, n, m, rfl, hn, hm, h0 | ⟨b, o, rfl, hb, hc⟩⟩ := a
  · exact ⟨_, _, _, rfl, hn, hm, .inl h0⟩
  · by_cases hl : l = []
    · subst hl; exact ⟨_, _, _, rfl, hn, hm, .inl hn.symm⟩
    · have e := e b o n m rfl hl
      have hs : b < h'.size := by
        rw [Array.getElem?_eq_getElem hb] at e
        exact (Array.getElem?_eq_some_iff.1 e).1
      refine ⟨_, _, _, rfl, hn, hm, .inr ⟨b, o, rfl, hs, fun j x hj i u hu => ?_⟩⟩
      have := hc j x hj i u hu
      unfold Heap.at at this ⊢
      rw [e]; exact this
def FQ.sq (enc : α → List Value) (sz : Nat) (v : Value) (l : List α) : FQ where
  P s h := Seq enc sz h v l ∧ (l ≠ [] → ∃ b o n m, v = .slice (some ⟨b, o, none⟩) n m ∧ s b)
  loc := fun p e => ⟨seq_keepG p.1 (fun b o n m hv hl => by
      obtain ⟨b', o', n', m', hv', hs⟩ := p.2 hl
      rw [hv] at hv'
      cases hv'
      exact e b hs), p.2⟩
  mono := fun p m => ⟨p.1, fun hl => let ⟨b, o, n, k, e, hs⟩ := p.2 hl; ⟨b, o, n, k, e, m b hs⟩⟩
end
def FQ.and (A B : FQ) : FQ := ⟨fun s h => A.P s h ∧ B.P s h, fun p e => ⟨A.loc p.1 e, B.loc p.2 e⟩, fun p m => ⟨A.mono p.1 m, B.mono p.2 m⟩⟩
def FQ.all {ι : Type} (l : List ι) (A : ι → FQ) : FQ := ⟨fun s h => ∀ x ∈ l, (A x).P s h, fun p e x hx => (A x).loc (p x hx) e, fun p m x hx => (A x).mono (p x hx) m⟩
def FQ.ex {ι : Type} (A : ι → FQ) : FQ := ⟨fun s h => ∃ x, (A x).P s h, fun ⟨x, p⟩ e => ⟨x, (A x).loc p e⟩, fun ⟨x, p⟩ m => ⟨x, (A x).mono p m⟩⟩
def FQ.fact (q : Prop) : FQ := ⟨fun _ _ => q, fun p _ => p, fun p _ => p⟩
section
variable {h0 h : Heap} {F : List HP} {A B : FQ} {α : Type} {enc : α → List Value} {sz : Nat} {v : Value} {l : List α}
theorem fr_conv (s : HW.Sep h0 (Fr A :: F) h) (H : ∀ t, A.P t h → B.P t h) : HW.Sep h0 (Fr B :: F) h := s.conv fun t p => ⟨p.1, H t p.2⟩
theorem fr_get (s : HW.Sep h0 (Fr A :: F) h) : ∃ t, A.P t h := let ⟨t, p, _⟩ := s.head; ⟨t, p.2⟩
theorem fr_nil (s : HW.Sep h0 F h) : HW.Sep h0 (Fr (.fact True) :: F) h :=
  s.add1 (A := Fr (.fact True)) ⟨⟨fun _ => False, ⟨fun _ => False, fun _ => False, ⟨fun _ h => h.elim, trivial⟩, fun _ h => h, fun _ _ h => h, fun b => by simp⟩, fun _ h => h.elim⟩, Ext.refl h⟩
theorem fr_add (s : HW.Sep h0 (Fr A :: Sl enc sz v l :: F) h) : HW.Sep h0 (Fr (A.and (.sq enc sz v l)) :: F) h := by
  have s2 : HW.Sep h0 (HP.all [Fr A, Sl enc sz v l] :: F) h := Sep.shut_all (L := [_, _]) s
  refine s2.conv fun t ⟨s1, s2, a, ⟨s3, s4, ⟨k, o, hk⟩, e4, _, u2⟩, _, u⟩ => ⟨fun b hb => ?_, A.mono a.2 (fun b hb => (u b).2 (.inl hb)), o.seq, fun hl => ?_⟩
  · rcases (u b).1 hb with h1 | h1
    · exact a.1 b h1
    · rcases (u2 b).1 h1 with h2 | h2
      · exact o.lt ((hk b).1 h2).symm
      · exact (e4 b h2).elim
  · rcases o with ⟨_, _, e⟩ | ⟨b, p, n, m, c, t', e, rfl, _⟩
    · exact (hl e).elim
    · exact ⟨b, p, n, m, rfl, (u b).2 (.inr ((u2 b).2 (.inl ((hk b).2 e.symm))))⟩
theorem fr_join (s : HW.Sep h0 (Fr A :: Fr B :: F) h) : HW.Sep h0 (Fr (A.and B) :: F) h := by
  have s2 : HW.Sep h0 (HP.all [Fr A, Fr B] :: F) h := Sep.shut_all (L := [_, _]) s
  refine s2.conv fun t ⟨s1, s2, a, ⟨s3, s4, c, e4, _, u2⟩, _, u⟩ => ⟨fun b hb => ?_, A.mono a.2 (fun b hb => (u b).2 (.inl hb)), B.mono c.2 (fun b hb => (u b).2 (.inr ((u2 b).2 (.inl hb))))⟩
  rcases (u b).1 hb with h1 | h1
  · exact a.1 b h1
  · rcases (u2 b).1 h1 with h2 | h2
    · exact c.1 b h2
    · exact (e4 b h2).elim
end
end Go.Proofs.YtjlpgakoedigoaaDoor
