/- Heaps in parts: predicates with a footprint, side by side; the frame comes along by itself. -/
import Derived.Test.YtbgipcikkedloaaHwOpen
import Derived.Test.YtbgipcikkedloaaHwOps7
namespace Go.HW
open Go

/-- A heap predicate with its footprint: the blocks that it owns. -/
structure HP where
  P : (Nat → Prop) → Heap → Prop
  loc : ∀ {s h h'}, P s h → (∀ b, s b → h'[b]? = h[b]?) → P s h'
  dom : ∀ {s h}, P s h → ∀ b, s b → b < h.size

def Stars : List HP → (Nat → Prop) → Heap → Prop
  | [], s, _ => ∀ b, ¬ s b
  | A :: L, s, h => ∃ s1 s2, A.P s1 h ∧ Stars L s2 h ∧ (∀ b, s1 b → ¬ s2 b) ∧ ∀ b, s b ↔ (s1 b ∨ s2 b)

theorem Stars.loc : ∀ {L : List HP} {s : Nat → Prop} {h h' : Heap}, Stars L s h → (∀ b, s b → h'[b]? = h[b]?) → Stars L s h'
  | [], _, _, _, x, _ => x
  | _ :: _, _, _, _, ⟨s1, s2, a, l, d, u⟩, e => ⟨s1, s2, HP.loc _ a fun b hb => e b ((u b).2 (.inl hb)), Stars.loc l fun b hb => e b ((u b).2 (.inr hb)), d, u⟩
theorem Stars.dom : ∀ {L : List HP} {s : Nat → Prop} {h : Heap}, Stars L s h → ∀ b, s b → b < h.size
  | [], _, _, x, b, hb => (x b hb).elim
  | _ :: _, _, _, ⟨s1, s2, a, l, _, u⟩, b, hb => ((u b).1 hb).elim (HP.dom _ a b) (Stars.dom l b)
theorem Stars.perm {L L' : List HP} (p : L.Perm L') : ∀ {s : Nat → Prop} {h : Heap}, Stars L s h → Stars L' s h := by
  induction p with
  | nil => exact fun x => x
  | cons A _ ih => exact fun ⟨s1, s2, a, l, d, u⟩ => ⟨s1, s2, a, ih l, d, u⟩
  | swap A B L =>
    rintro s h ⟨s1, s2, a, ⟨s3, s4, b, l, d, u⟩, d', u'⟩
    refine ⟨s3, fun i => s1 i ∨ s4 i, b, ⟨s1, s4, a, l, fun i h1 h4 => d' i h1 ((u i).2 (.inr h4)), fun i => Iff.rfl⟩, fun i h3 h => ?_, fun i => ?_⟩
    · rcases h with h | h
      · exact d' i h ((u i).2 (.inl h3))
      · exact d i h3 h
    · rw [u' i, u i]
      exact ⟨fun h => h.elim (fun h => .inr (.inl h)) fun h => h.elim .inl fun h => .inr (.inr h), fun h => h.elim (fun h => .inr (.inl h)) fun h => h.elim .inl fun h => .inr (.inr h)⟩
  | trans _ _ i1 i2 => exact fun x => i2 (i1 x)
theorem Stars.append : ∀ {L M : List HP} {s t : Nat → Prop} {h : Heap}, Stars L s h → Stars M t h → (∀ b, s b → ¬ t b) → Stars (L ++ M) (fun b => s b ∨ t b) h
  | [], M, s, t, h, x, y, _ => by
    have : (fun b => s b ∨ t b) = t := funext fun b => propext ⟨fun z => z.elim (fun z => (x b z).elim) id, .inr⟩
    rw [this]; exact y
  | A :: L, M, s, t, h, ⟨s1, s2, a, l, d, u⟩, y, dis => by
    refine ⟨s1, fun b => s2 b ∨ t b, a, Stars.append l y fun b h2 => dis b ((u b).2 (.inr h2)), fun b h1 h => ?_, fun b => ?_⟩
    · rcases h with h | h
      · exact d b h1 h
      · exact dis b ((u b).2 (.inl h1)) h
    · show (s b ∨ t b) ↔ _
      rw [u b, or_assoc]
theorem Stars.split : ∀ {L M : List HP} {s : Nat → Prop} {h : Heap}, Stars (L ++ M) s h → ∃ s1 s2, Stars L s1 h ∧ Stars M s2 h ∧ (∀ b, s1 b → ¬ s2 b) ∧ ∀ b, s b ↔ (s1 b ∨ s2 b)
  | [], M, s, h, x => ⟨fun _ => False, s, fun _ h => h, x, fun _ h => h.elim, fun b => by simp⟩
  | A :: L, M, s, h, ⟨s1, s2, a, l, d, u⟩ => by
    obtain ⟨t1, t2, x, y, d', u'⟩ := Stars.split l
    refine ⟨fun b => s1 b ∨ t1 b, t2, ⟨s1, t1, a, x, fun b h1 h2 => d b h1 ((u' b).2 (.inl h2)), fun b => Iff.rfl⟩, y, fun b h1 h2 => ?_, fun b => ?_⟩
    · rcases h1 with h1 | h1
      · exact d b h1 ((u' b).2 (.inr h2))
      · exact d' b h1 h2
    · rw [u b, u' b, or_assoc]

/-- All predicates side by side, in blocks that are new since h0; what h0 had is as it was. -/
structure Sep (h0 : Heap) (L : List HP) (h : Heap) : Prop where
  ex : ∃ s, Stars L s h ∧ ∀ b, s b → h0.size ≤ b
  ext : Ext h0 h

section
variable {h0 h h' : Heap} {A B C D E : HP} {F L M : List HP}
theorem Sep.start (h : Heap) : Sep h [] h := ⟨⟨fun _ => False, fun _ h => h, fun _ h => h.elim⟩, Ext.refl h⟩
theorem Sep.perm (s : Sep h0 L h) (p : L.Perm M) : Sep h0 M h := ⟨let ⟨x, y, z⟩ := s.ex; ⟨x, y.perm p, z⟩, s.ext⟩
theorem Sep.b1 (s : Sep h0 (A :: B :: F) h) : Sep h0 (B :: A :: F) h := s.perm (.swap _ _ _)
theorem Sep.b2 (s : Sep h0 (A :: B :: C :: F) h) : Sep h0 (C :: A :: B :: F) h := s.perm (List.perm_middle (l₁ := [A, B]))
theorem Sep.b3 (s : Sep h0 (A :: B :: C :: D :: F) h) : Sep h0 (D :: A :: B :: C :: F) h := s.perm (List.perm_middle (l₁ := [A, B, C]))
theorem Sep.b4 (s : Sep h0 (A :: B :: C :: D :: E :: F) h) : Sep h0 (E :: A :: B :: C :: D :: F) h := s.perm (List.perm_middle (l₁ := [A, B, C, D]))
theorem Sep.b5 {G : HP} (s : Sep h0 (A :: B :: C :: D :: E :: G :: F) h) : Sep h0 (G :: A :: B :: C :: D :: E :: F) h := s.perm (List.perm_middle (l₁ := [A, B, C, D, E]))
theorem Sep.b6 {G I : HP} (s : Sep h0 (A :: B :: C :: D :: E :: G :: I :: F) h) : Sep h0 (I :: A :: B :: C :: D :: E :: G :: F) h := s.perm (List.perm_middle (l₁ := [A, B, C, D, E, G]))
/-! The first one goes behind so many. -/
theorem Sep.p2 (s : Sep h0 (A :: B :: C :: F) h) : Sep h0 (B :: C :: A :: F) h := s.perm (List.perm_middle (l₁ := [B, C])).symm
theorem Sep.p3 (s : Sep h0 (A :: B :: C :: D :: F) h) : Sep h0 (B :: C :: D :: A :: F) h := s.perm (List.perm_middle (l₁ := [B, C, D])).symm
theorem Sep.p4 (s : Sep h0 (A :: B :: C :: D :: E :: F) h) : Sep h0 (B :: C :: D :: E :: A :: F) h := s.perm (List.perm_middle (l₁ := [B, C, D, E])).symm
theorem Sep.tail (s : Sep h0 (A :: F) h) : Sep h0 F h :=
  ⟨let ⟨_, ⟨_, s2, _, l, _, u⟩, z⟩ := s.ex; ⟨s2, l, fun b hb => z b ((u b).2 (.inr hb))⟩, s.ext⟩
theorem Sep.tail2 (s : Sep h0 (A :: B :: F) h) : Sep h0 F h := s.tail.tail
theorem Sep.drop1 (s : Sep h0 (A :: B :: F) h) : Sep h0 (A :: F) h := s.b1.tail
theorem Sep.ext' (s : Sep h0 F h) (e : Ext h h') : Sep h0 F h' :=
  ⟨let ⟨x, y, z⟩ := s.ex; ⟨x, y.loc fun b hb => e.same b (y.dom b hb), z⟩, s.ext.trans e⟩
/-- One step: the first predicate alone changes. -/
theorem Sep.step (s : Sep h0 (A :: F) h) (hz : h.size ≤ h'.size) (H : ∀ t, A.P t h → (∃ t', B.P t' h' ∧ ∀ b, t' b → t b ∨ h.size ≤ b) ∧ ∀ i, i < h.size → ¬ t i → h'[i]? = h[i]?) : Sep h0 (B :: F) h' := by
  obtain ⟨⟨x, ⟨s1, s2, a, l, d, u⟩, z⟩, e⟩ := s
  obtain ⟨⟨t', hb, ht⟩, hs⟩ := H s1 a
  refine ⟨⟨fun b => t' b ∨ s2 b, ⟨t', s2, hb, l.loc fun b h2 => hs b (l.dom b h2) fun h1 => d b h1 h2, fun b h1 h2 => ?_, fun b => Iff.rfl⟩, fun b h1 => ?_⟩, Nat.le_trans e.size hz, fun i hi => ?_⟩
  · rcases ht b h1 with h3 | h3
    · exact d b h3 h2
    · have := l.dom b h2; omega
  · rcases h1 with h1 | h1
    · rcases ht b h1 with h3 | h3
      · exact z b ((u b).2 (.inl h3))
      · have := e.size; omega
    · exact z b ((u b).2 (.inr h1))
  · rw [hs i (Nat.lt_of_lt_of_le hi e.size) fun h1 => by have := z i ((u i).2 (.inl h1)); omega]
    exact e.same i hi
theorem Sep.conv (s : Sep h0 (A :: F) h) (H : ∀ t, A.P t h → B.P t h) : Sep h0 (B :: F) h :=
  s.step (Nat.le_refl _) fun t ht => ⟨⟨t, H t ht, fun _ => .inl⟩, fun _ _ _ => rfl⟩
theorem Sep.head (s : Sep h0 (A :: F) h) : ∃ t, A.P t h ∧ ∀ b, t b → h0.size ≤ b := let ⟨_, ⟨s1, _, a, _, _, u⟩, z⟩ := s.ex; ⟨s1, a, fun b hb => z b ((u b).2 (.inl hb))⟩
/-- The first predicate alone is changed: into any list of predicates, in its blocks and new ones. -/
theorem Sep.focus (s : Sep h0 (A :: F) h) : ∃ t, A.P t h ∧ (∀ b, t b → h0.size ≤ b) ∧ Ext h0 h ∧ ∀ (L : List HP) (t' : Nat → Prop) (h' : Heap), Stars L t' h' → (∀ i, t' i → t i ∨ h.size ≤ i) → h.size ≤ h'.size → (∀ i, i < h.size → ¬ t i → h'[i]? = h[i]?) → Sep h0 (L ++ F) h' := by
  obtain ⟨⟨x, ⟨s1, s2, a, l, d, u⟩, z⟩, e⟩ := s
  refine ⟨s1, a, fun b hb => z b ((u b).2 (.inl hb)), e, fun L t' h' hL ht hz hs => ⟨⟨_, Stars.append hL (l.loc fun b h2 => hs b (l.dom b h2) fun h1 => d b h1 h2) fun b h1 h2 => ?_, fun b h1 => ?_⟩, Nat.le_trans e.size hz, fun i hi => ?_⟩⟩
  · rcases ht b h1 with h3 | h3
    · exact d b h3 h2
    · have := l.dom b h2; omega
  · rcases h1 with h1 | h1
    · rcases ht b h1 with h3 | h3
      · exact z b ((u b).2 (.inl h3))
      · have := e.size; omega
    · exact z b ((u b).2 (.inr h1))
  · rw [hs i (Nat.lt_of_lt_of_le hi e.size) fun h1 => by have := z i ((u i).2 (.inl h1)); omega]
    exact e.same i hi
/-- What was made anew over h comes beside what is there. -/
theorem Sep.add (s : Sep h0 F h) (n : Sep h L h') : Sep h0 (L ++ F) h' := by
  obtain ⟨⟨x, l, z⟩, e⟩ := s
  obtain ⟨⟨y, m, q⟩, e'⟩ := n
  refine ⟨⟨_, Stars.append m (l.loc fun b hb => e'.same b (l.dom b hb)) fun b h1 h2 => ?_, fun b h => ?_⟩, e.trans e'⟩
  · have := q b h1; have := l.dom b h2; omega
  · rcases h with h | h
    · have := q b h; have := e.size; omega
    · exact z b h
theorem Sep.add1 (s : Sep h0 F h) (n : Sep h [A] h') : Sep h0 (A :: F) h' := s.add n
theorem Sep.add2 (s : Sep h0 F h) (n : Sep h [A, B] h') : Sep h0 (A :: B :: F) h' := s.add n
theorem Sep.add0 (s : Sep h0 F h) (n : Sep h [] h') : Sep h0 F h' := s.add n
/-- A part alone, over the heap that it is in. -/
theorem Sep.one (s : Sep h0 (A :: F) h) : Sep h0 [A] h :=
  ⟨let ⟨_, ⟨s1, _, a, _, _, u⟩, z⟩ := s.ex; ⟨s1, ⟨s1, fun _ => False, a, fun _ h => h, fun _ _ h => h, fun b => by simp⟩, fun b hb => z b ((u b).2 (.inl hb))⟩, s.ext⟩
end

/-! ### Some of them, in another order -/
theorem Stars.fn : ∀ {L : List HP} {s : Nat → Prop} {h : Heap}, Stars L s h → ∃ f : Nat → Nat → Prop, (∀ (i : Nat) (A : HP), L[i]? = some A → A.P (f i) h) ∧ (∀ i j b, i < L.length → j < L.length → i ≠ j → f i b → ¬ f j b) ∧ ∀ i b, i < L.length → f i b → s b
  | [], s, h, _ => ⟨fun _ _ => False, fun i A hi => by simp at hi, fun i j b hi => by simp at hi, fun i b hi => by simp at hi⟩
  | A :: L, s, h, ⟨s1, s2, a, l, d, u⟩ => by
    obtain ⟨f, h1, h2, h3⟩ := Stars.fn l
    refine ⟨fun i => match i with | 0 => s1 | i + 1 => f i, fun i B hi => ?_, fun i j b hi hj hne x y => ?_, fun i b hi x => ?_⟩
    · cases i with
      | zero => simp at hi; subst hi; exact a
      | succ i => exact h1 i B (by simpa using hi)
    · cases i with
      | zero => cases j with
        | zero => exact hne rfl
        | succ j => exact d b x (h3 j b (by simpa using hj) y)
      | succ i => cases j with
        | zero => exact d b y (h3 i b (by simpa using hi) x)
        | succ j => exact h2 i j b (by simpa using hi) (by simpa using hj) (fun e => hne (by rw [e])) x y
    · cases i with
      | zero => exact (u b).2 (.inl x)
      | succ i => exact (u b).2 (.inr (h3 i b (by simpa using hi) x))
theorem Stars.of_fn : ∀ (M : List HP) (h : Heap) (f : Nat → Nat → Prop), (∀ (i : Nat) (A : HP), M[i]? = some A → A.P (f i) h) → (∀ i j b, i < M.length → j < M.length → i ≠ j → f i b → ¬ f j b) → Stars M (fun b => ∃ i, i < M.length ∧ f i b) h
  | [], h, f, _, _ => fun b ⟨i, hi, _⟩ => by simp at hi
  | A :: M, h, f, h1, h2 => by
    have ih := Stars.of_fn M h (fun i => f (i + 1)) (fun i B hi => h1 (i + 1) B (by simpa using hi)) fun i j b hi hj hne => h2 (i + 1) (j + 1) b (by simpa using hi) (by simpa using hj) (by omega)
    refine ⟨f 0, _, h1 0 A rfl, ih, fun b x ⟨i, hi, y⟩ => h2 0 (i + 1) b (by simp) (by simpa using hi) (by omega) x y, fun b => ⟨fun ⟨i, hi, x⟩ => ?_, fun x => ?_⟩⟩
    · cases i with
      | zero => exact .inl x
      | succ i => exact .inr ⟨i, by simpa using hi, x⟩
    · rcases x with x | ⟨i, hi, x⟩
      · exact ⟨0, by simp, x⟩
      · exact ⟨i + 1, by simpa using hi, x⟩
def HP.emp : HP := ⟨fun s _ => ∀ b, ¬ s b, fun x _ => x, fun x b hb => (x b hb).elim⟩
def selB (n : Nat) : List Nat → Bool
  | [] => true
  | i :: r => decide (i < n) && !r.contains i && selB n r
theorem selB_spec {n : Nat} : ∀ {l : List Nat}, selB n l = true → (∀ (i x : Nat), l[i]? = some x → x < n) ∧ ∀ (i j x : Nat), l[i]? = some x → l[j]? = some x → i = j
  | [], _ => ⟨fun i x h => by simp at h, fun i j x h => by simp at h⟩
  | y :: l, h => by
    simp only [selB, Bool.and_eq_true, decide_eq_true_eq, Bool.not_eq_true', List.contains_eq_mem, decide_eq_false_iff_not] at h
    obtain ⟨⟨h1, h2⟩, h3⟩ := h
    obtain ⟨g1, g2⟩ := selB_spec h3
    refine ⟨fun i x hi => ?_, fun i j x hi hj => ?_⟩
    · cases i with
      | zero => simp at hi; omega
      | succ i => exact g1 i x (by simpa using hi)
    · cases i with
      | zero => cases j with
        | zero => rfl
        | succ j => simp at hi hj; subst hi; exact (h2 (List.mem_of_getElem? hj)).elim
      | succ i => cases j with
        | zero => simp at hi hj; subst hj; exact (h2 (List.mem_of_getElem? hi)).elim
        | succ j => rw [g2 i j x (by simpa using hi) (by simpa using hj)]
/-- Those of these places, in this order. -/
theorem Sep.sel {h0 h : Heap} {L : List HP} (s : Sep h0 L h) (idx : List Nat) (hi : selB L.length idx = true) : Sep h0 (idx.map fun i => L.getD i HP.emp) h := by
  obtain ⟨⟨x, l, z⟩, e⟩ := s
  obtain ⟨f, h1, h2, h3⟩ := l.fn
  obtain ⟨g1, g2⟩ := selB_spec hi
  have len : ∀ i, i < (idx.map fun i => L.getD i HP.emp).length → i < idx.length := fun i h => by simpa using h
  refine ⟨⟨_, Stars.of_fn _ h (fun i => f (idx.getD i 0)) (fun i A hA => ?_) fun i j b hi hj hne x y => ?_, fun b ⟨i, hi, x⟩ => ?_⟩, e⟩
  · rw [List.getElem?_map] at hA
    cases hx : idx[i]? with
    | none => rw [hx] at hA; cases hA
    | some q =>
      rw [hx] at hA
      simp only [Option.map_some, Option.some.injEq] at hA
      have hq := g1 i q hx
      have : f (idx.getD i 0) = f q := by simp [List.getD, hx]
      rw [this, ← hA]
      have hL : L.getD q HP.emp = L[q] := by simp [List.getD, hq]
      rw [hL]
      exact h1 q _ (List.getElem?_eq_getElem hq)
  · have hi := len i hi
    have hj := len j hj
    have e1 : idx.getD i 0 = idx[i] := by simp [List.getD, hi]
    have e2 : idx.getD j 0 = idx[j] := by simp [List.getD, hj]
    rw [e1] at x
    rw [e2] at y
    exact h2 _ _ b (g1 i _ (List.getElem?_eq_getElem hi)) (g1 j _ (List.getElem?_eq_getElem hj)) (fun e => hne (g2 i j _ (List.getElem?_eq_getElem hi) (by rw [e]; exact List.getElem?_eq_getElem hj))) x y
  · have hi := len i hi
    have e1 : idx.getD i 0 = idx[i] := by simp [List.getD, hi]
    rw [e1] at x
    exact z b (h3 _ b (g1 i _ (List.getElem?_eq_getElem hi)) x)

/-! ### Making predicates -/
def HP.ex {α : Type} (A : α → HP) : HP where
  P s h := ∃ x, (A x).P s h
  loc := fun ⟨x, p⟩ e => ⟨x, (A x).loc p e⟩
  dom := fun ⟨x, p⟩ => (A x).dom p
def HP.all (L : List HP) : HP where
  P s h := Stars L s h
  loc p e := p.loc e
  dom p := p.dom
def HP.fact (p : Prop) (A : HP) : HP where
  P s h := p ∧ A.P s h
  loc := fun ⟨x, p⟩ e => ⟨x, A.loc p e⟩
  dom := fun ⟨_, p⟩ => A.dom p
def Blk (b : Nat) (c : Array Value) (t : TypeId) : HP where
  P s h := (∀ i, s i ↔ i = b) ∧ h.has b c t
  loc := fun ⟨x, p⟩ e => ⟨x, by unfold Heap.has; rw [e b ((x b).2 rfl)]; exact p⟩
  dom := fun ⟨x, p⟩ i hi => by rw [(x i).1 hi]; exact p.lt
def Sl {α : Type} (enc : α → List Value) (sz : Nat) (v : Value) (l : List α) : HP where
  P s h := ∃ k, Own enc sz h k v l ∧ ∀ i, s i ↔ some i = k
  loc := fun ⟨k, o, x⟩ e => ⟨k, o.keep fun b hb => e b ((x b).2 hb.symm), x⟩
  dom := fun ⟨k, o, x⟩ i hi => o.lt ((x i).1 hi).symm

section
variable {h0 h h' : Heap} {A B : HP} {F L : List HP}
theorem Sep.open_ex {α : Type} {A : α → HP} (s : Sep h0 (HP.ex A :: F) h) : ∃ x, Sep h0 (A x :: F) h := by
  obtain ⟨⟨x, ⟨s1, s2, ⟨y, a⟩, l, d, u⟩, z⟩, e⟩ := s
  exact ⟨y, ⟨⟨x, ⟨s1, s2, a, l, d, u⟩, z⟩, e⟩⟩
theorem Sep.shut_ex {α : Type} {A : α → HP} (x : α) (s : Sep h0 (A x :: F) h) : Sep h0 (HP.ex A :: F) h := s.conv fun _ p => ⟨x, p⟩
theorem Sep.open_all (s : Sep h0 (HP.all L :: F) h) : Sep h0 (L ++ F) h := by
  obtain ⟨⟨x, ⟨s1, s2, a, l, d, u⟩, z⟩, e⟩ := s
  exact ⟨⟨_, Stars.append a l d, fun b hb => z b ((u b).2 hb)⟩, e⟩
theorem Sep.shut_all (s : Sep h0 (L ++ F) h) : Sep h0 (HP.all L :: F) h := by
  obtain ⟨⟨x, l, z⟩, e⟩ := s
  obtain ⟨s1, s2, a, m, d, u⟩ := l.split
  exact ⟨⟨x, ⟨s1, s2, a, m, d, u⟩, z⟩, e⟩
/-- The first of many, and one more at their end. -/
theorem Sep.pop (s : Sep h0 (HP.all (A :: L) :: F) h) : Sep h0 (A :: HP.all L :: F) h := (s.open_all.perm List.perm_middle.symm).shut_all.b1
theorem Sep.push (s : Sep h0 (HP.all L :: A :: F) h) : Sep h0 (HP.all (L ++ [A]) :: F) h := Sep.shut_all (by rw [List.append_assoc]; exact s.open_all)
theorem Sep.unpop (s : Sep h0 (A :: HP.all L :: F) h) : Sep h0 (HP.all (A :: L) :: F) h := Sep.shut_all (s.b1.open_all.perm List.perm_middle)
theorem Sep.open_fact {p : Prop} (s : Sep h0 (HP.fact p A :: F) h) : p ∧ Sep h0 (A :: F) h := ⟨let ⟨_, x, _⟩ := s.head; x.1, s.conv fun _ x => x.2⟩
theorem Sep.shut_fact {p : Prop} (hp : p) (s : Sep h0 (A :: F) h) : Sep h0 (HP.fact p A :: F) h := s.conv fun _ x => ⟨hp, x⟩
end

/-! ### Blocks -/
section
variable {h0 h : Heap} {F : List HP} {b o t n : Nat} {c : Array Value}
theorem Sep.has (s : Sep h0 (Blk b c t :: F) h) : h.has b c t := let ⟨_, x, _⟩ := s.head; x.2
theorem Sep.ld {v : Value} {K : Value → Prop} (s : Sep h0 (Blk b c t :: F) h) (hv : c[o]? = some v) : sLd h (ptr b o) K = K v := ev_ld_has s.has hv
theorem Sep.ldn {K : Value → Prop} (s : Sep h0 (Blk b c t :: F) h) (ho : o + n ≤ c.size) : sLdN h (ptr b o) n K = K (.agg (c.extract o (o + n))) := ev_ldn_has s.has ho
theorem Sep.ldall {K : Value → Prop} (s : Sep h0 (Blk b c t :: F) h) (hn : c.size = n) : sLdN h (ptr b 0) n K = K (.agg c) := ev_ldn_all s.has hn
theorem Sep.upd (s : Sep h0 (Blk b c t :: F) h) (c' : Array Value) : Sep h0 (Blk b c' t :: F) (h.upd b c' t) :=
  s.step (by rw [Heap.size_upd]; exact Nat.le_refl _) fun t' ht => ⟨⟨t', ⟨ht.1, Heap.has_upd ht.2.lt _ _⟩, fun _ => .inl⟩, fun i _ hn => by
    unfold Heap.upd; rw [Array.getElem?_setIfInBounds_ne fun e => hn ((ht.1 i).2 e.symm)]⟩
theorem Sep.st {v : Value} {K : Heap → Prop} (s : Sep h0 (Blk b c t :: F) h) (ho : o < c.size) (h3 : Cell1 v) (H : ∀ h', Sep h0 (Blk b (c.setIfInBounds o v) t :: F) h' → K h') : sSt h (ptr b o) v K := by
  rw [ev_st_has s.has ho h3]; exact H _ (s.upd _)
theorem Sep.stn {cs : Array Value} {K : Heap → Prop} (s : Sep h0 (Blk b c t :: F) h) (hs : cs.size = n) (ho : o + n ≤ c.size) (h1 : ∀ u ∈ cs.toList, Cell1 u) (H : ∀ h', Sep h0 (Blk b (putRow c o cs.toList) t :: F) h' → K h') : sStN h (ptr b o) (.agg cs) n K := by
  rw [ev_stn_has s.has hs ho h1]; exact H _ (s.upd _)
theorem Sep.stall {cs : Array Value} {K : Heap → Prop} (s : Sep h0 (Blk b c t :: F) h) (hs : cs.size = n) (hn : c.size = n) (h1 : ∀ u ∈ cs.toList, Cell1 u) (H : ∀ h', Sep h0 (Blk b cs t :: F) h' → K h') : sStN h (ptr b 0) (.agg cs) n K := by
  rw [ev_stn_all s.has hs hn h1]; exact H _ (s.upd _)
theorem sep_push (h : Heap) (c : Array Value) (t : TypeId) : Sep h [Blk h.size c t] (h.push (.cells c t)) :=
  ⟨⟨fun i => i = h.size, ⟨fun i => i = h.size, fun _ => False, ⟨fun _ => Iff.rfl, Heap.has_new _ _⟩, fun _ h => h, fun _ _ h => h, fun b => by simp⟩, fun b hb => by omega⟩, (Ext.refl h).push⟩
theorem Sep.new {z : Array Value} {K : Value → Heap → Prop} (s : Sep h0 F h) (H : ∀ b h', Sep h0 (Blk b z t :: F) h' → K (ptr b 0) h') : sNew h z t K := H _ _ (s.add1 (sep_push h z t))
theorem Sep.box {x : Value} {K : Value → Heap → Prop} (s : Sep h0 F h) (hc : x.cells = c) (H : ∀ b h', Sep h0 (Blk b c t :: F) h' → K (ptr b 0) h') : sBox h x t K := by
  subst hc; exact H _ _ (s.add1 (sep_push h _ t))
end

/-! ### Slices -/
theorem own_cell {α : Type} {enc : α → List Value} {sz : Nat} {h : Heap} {k : Option Nat} {v : Value} {l : List α} (o : Own enc sz h k v l) : Cell1 v := by
  rcases o with ⟨_, rfl, _⟩ | ⟨_, _, _, _, _, _, _, rfl, _⟩ <;> trivial
theorem seq_cell {α : Type} {enc : α → List Value} {sz : Nat} {h : Heap} {v : Value} {l : List α} (o : Seq enc sz h v l) : Cell1 v := by
  obtain ⟨_, _, _, rfl, _⟩ := o; trivial
/-- Where element j of a slice lies. -/
def eltP : Value → Nat → Nat → Value
  | .slice (some a) _ _, j, sz => ptr a.block (a.off + j * sz)
  | _, _, _ => undef
/-- A slice of a slice. -/
def cutP : Value → Nat → Nat → Nat → Value
  | .slice a _ c, i, j, sz => cutV a i j c sz
  | v, _, _, _ => v

section
variable {α : Type} {enc : α → List Value} {sz : Nat} {h0 h : Heap} {F : List HP} {v : Value} {l : List α}
theorem Sep.own (s : Sep h0 (Sl enc sz v l :: F) h) : ∃ k, Own enc sz h k v l := let ⟨_, ⟨k, o, _⟩, _⟩ := s.head; ⟨k, o⟩
theorem Sep.seq (s : Sep h0 (Sl enc sz v l :: F) h) : Seq enc sz h v l := let ⟨_, o⟩ := s.own; o.seq
theorem Sep.cell (s : Sep h0 (Sl enc sz v l :: F) h) : Cell1 v := seq_cell s.seq
theorem Seq.elt {K : Value → Prop} (a : Seq enc sz h v l) {j : Nat} (hj : j < l.length) (q : IntKind) : sIxS v (.int q j) sz K = K (eltP v j sz) := by
  obtain ⟨a, n, m, rfl, hn, hm, h2 | ⟨b, o, rfl, hb, hc⟩⟩ := a
  · omega
  · rw [ev_ixs (by omega) (by omega)]; rfl
theorem Seq.eltn {K : Value → Prop} (a : Seq enc sz h v l) {j : Nat} {x : α} (hj : l[j]? = some x) (hs : (enc x).length = sz) : sLdN h (eltP v j sz) sz K = K (.agg (enc x).toArray) := by
  have := a.ldn (K := K) hj hs .i64
  rw [a.elt (List.getElem?_eq_some_iff.1 hj).1] at this; exact this
theorem Seq.elt1 {K : Value → Prop} (a : Seq enc sz h v l) {j i : Nat} {x : α} {u : Value} (hj : l[j]? = some x) (hu : (enc x)[i]? = some u) : ∃ b o, eltP v j sz = ptr b o ∧ sLd h (ptr b (o + i)) K = K u := by
  have hlt := (List.getElem?_eq_some_iff.1 hj).1
  obtain ⟨a, n, m, rfl, hn, hm, h2 | ⟨b, o, rfl, hb, hc⟩⟩ := a
  · omega
  · exact ⟨b, o + j * sz, rfl, (hc j x hj).ld hu⟩
theorem Seq.eltld {K : Value → Prop} (a : Seq enc sz h v l) {j i : Nat} {x : α} {u : Value} (hj : l[j]? = some x) (hu : (enc x)[i]? = some u) : sOff (eltP v j sz) i (fun p => sLd h p K) = K u := by
  obtain ⟨b, o, e, h1⟩ := a.elt1 (K := K) hj hu
  rw [e, ev_off, h1]
theorem Seq.eltld0 {K : Value → Prop} (a : Seq enc sz h v l) {j : Nat} {x : α} {u : Value} (hj : l[j]? = some x) (hu : (enc x)[0]? = some u) : sLd h (eltP v j sz) K = K u := by
  obtain ⟨b, o, e, h1⟩ := a.elt1 (K := K) hj hu
  rw [e]; exact h1
theorem Seq.cutP (a : Seq enc sz h v l) {i j : Nat} (hi : i ≤ j) (hj : j ≤ l.length) : Seq enc sz h (cutP v i j sz) ((l.take j).drop i) := by
  obtain ⟨v', q, H⟩ := a.cut hi hj
  obtain ⟨a, n, m, rfl, hn, hm, hd⟩ := a
  have e : HW.cutP (.slice a n m) i j sz = v' := by
    obtain ⟨_, _, _, _, _, e, h1, h2, _, _, e3⟩ := H (some (.int .i64 i)) (some (.int .i64 j)) (fun x => x = v') ⟨.i64, rfl⟩ ⟨.i64, rfl⟩ rfl
    cases e
    obtain ⟨_, h1⟩ := h1
    obtain ⟨_, h2⟩ := h2
    simp only [Value.int.injEq] at h1 h2
    have e1 := Int.ofNat.inj h1.2
    have e2 := Int.ofNat.inj h2.2
    subst e1 e2
    exact e3
  rw [e]; exact q
theorem Seq.slK {K : Value → Prop} (a : Seq enc sz h v l) {i j : Nat} (hi : i ≤ j) (hj : j ≤ l.length) {lo hi' : Option Value} (h1 : bnd lo 0 i) (h2 : bnd hi' l.length j) (H : K (HW.cutP v i j sz)) : sSl v lo hi' sz K := by
  obtain ⟨a, n, m, rfl, hn, hm, hd⟩ := a
  subst hn
  exact ⟨a, _, m, i, j, rfl, h1, h2, hi, by omega, H⟩
theorem Own.cutP {k : Option Nat} (a : Own enc sz h k v l) {i j : Nat} (hi : i ≤ j) (hj : j ≤ l.length) : Own enc sz h k (HW.cutP v i j sz) ((l.take j).drop i) := by
  obtain ⟨v', q, H⟩ := a.cut hi hj
  obtain ⟨d, n, m, rfl, hn, hm, hd⟩ := a.seq
  have e : HW.cutP (.slice d n m) i j sz = v' := by
    obtain ⟨_, _, _, _, _, e, h1, h2, _, _, e3⟩ := H (some (.int .i64 i)) (some (.int .i64 j)) (fun x => x = v') ⟨.i64, rfl⟩ ⟨.i64, rfl⟩ rfl
    cases e
    obtain ⟨_, h1⟩ := h1
    obtain ⟨_, h2⟩ := h2
    simp only [Value.int.injEq] at h1 h2
    have e1 := Int.ofNat.inj h1.2
    have e2 := Int.ofNat.inj h2.2
    subst e1 e2
    exact e3
  rw [e]; exact q
theorem Sep.cut (s : Sep h0 (Sl enc sz v l :: F) h) {i j : Nat} (hi : i ≤ j) (hj : j ≤ l.length) : Sep h0 (Sl enc sz (HW.cutP v i j sz) ((l.take j).drop i) :: F) h :=
  s.conv fun _ ⟨k, o, x⟩ => ⟨k, o.cutP hi hj, x⟩
theorem Sep.cutl (s : Sep h0 (Sl enc sz v l :: F) h) {i : Nat} (hi : i ≤ l.length) : Sep h0 (Sl enc sz (HW.cutP v i l.length sz) (l.drop i) :: F) h := by
  have := s.cut hi (Nat.le_refl _); rwa [List.take_length] at this
theorem Sep.cutr (s : Sep h0 (Sl enc sz v l :: F) h) {j : Nat} (hj : j ≤ l.length) : Sep h0 (Sl enc sz (HW.cutP v 0 j sz) (l.take j) :: F) h := s.cut (Nat.zero_le _) hj
theorem sep_nil (s : Sep h0 F h) : Sep h0 (Sl enc sz (.slice none 0 0) [] :: F) h :=
  s.add1 (A := Sl enc sz (.slice none 0 0) []) ⟨⟨fun _ => False, ⟨fun _ => False, fun _ => False, ⟨none, .nil, fun _ => by simp⟩, fun _ h => h, fun _ _ h => h, fun b => by simp⟩, fun _ h => h.elim⟩, Ext.refl h⟩
theorem Sep.app {bytes e : Nat} {z : Array Value} {w : Value} {r : List α} {K : Value → Heap → Prop} (s : Sep h0 (Sl enc sz v l :: F) h) (hz : z.size = sz) (hp : 0 < sz) (hs : ∀ x, (enc x).length = sz) (h1 : ∀ x, ∀ u ∈ enc x, Cell1 u) (q : Seq enc sz h w r)
    (hb : (l.length + r.length) * bytes ≤ 2 ^ 40) (hb0 : 0 < bytes) (H : ∀ v' h', Cell1 v' → Sep h0 (Sl enc sz v' (l ++ r) :: F) h' → K v' h') : sApp h v w z e bytes K := by
  obtain ⟨⟨x, ⟨s1, s2, ⟨k, o, hk⟩, m, d, u⟩, y⟩, ex⟩ := s
  refine app_intro hz hp hs h1 o q hb hb0 (fun k' v' h' o' hk' c => H v' h' (own_cell o') (Sep.step (A := Sl enc sz v l) ⟨⟨x, ⟨s1, s2, ⟨k, o, hk⟩, m, d, u⟩, y⟩, ex⟩ c.size fun t ⟨k2, o2, hk2⟩ => ?_))
  have : k2 = k := by
    rcases o with ⟨rfl, rfl, rfl⟩ | ⟨b, p, n, m, c, t, rfl, rfl, _⟩ <;> rcases o2 with ⟨rfl, e, _⟩ | ⟨b, p, n, m, c, t, rfl, e, _⟩ <;> first | rfl | cases e <;> rfl
  subst this
  refine ⟨⟨fun i => some i = k', ⟨k', o', fun _ => Iff.rfl⟩, fun b hb => ?_⟩, fun i hi hn => c.same i hi fun e => hn ((hk2 i).2 e)⟩
  rcases hk' with e | e
  · exact .inl ((hk2 b).2 (hb.trans e))
  · rw [e] at hb; cases hb; exact .inr (Nat.le_refl _)
/-- Element j of an own slice is set. -/
theorem Own.put {k : Option Nat} (o : Own enc sz h k v l) (hs : ∀ x, (enc x).length = sz) {j : Nat} (hj : j < l.length) (x : α) : ∃ b p c t, k = some b ∧ eltP v j sz = ptr b p ∧ h.has b c t ∧ p + sz ≤ c.size ∧ ∀ h', h'.has b (putRow c p (enc x)) t → Own enc sz h' k v (l.set j x) := by
  rcases o with ⟨rfl, rfl, rfl⟩ | ⟨b, p, n, m, c, t, rfl, rfl, hn, hm, hb, hc, hcc⟩
  · simp at hj
  · have hm1 : (j + 1) * sz ≤ m * sz := Nat.mul_le_mul_right _ (by omega)
    rw [Nat.add_mul, Nat.one_mul] at hm1
    refine ⟨b, p + j * sz, c, t, rfl, rfl, hb, by omega, fun h' hh => .inr ⟨b, p, n, m, _, t, rfl, rfl, by simp [hn], hm, hh, by rw [size_putRow]; exact hc, fun q y hq i u hu => ?_⟩⟩
    have hi : i < sz := by have := (List.getElem?_eq_some_iff.1 hu).1; rw [hs] at this; exact this
    have hq' := (List.getElem?_eq_some_iff.1 hq).1
    simp at hq'
    have hq1 : (q + 1) * sz ≤ m * sz := Nat.mul_le_mul_right _ (by omega)
    rw [Nat.add_mul, Nat.one_mul] at hq1
    by_cases e : q = j
    · subst e
      rw [List.getElem?_set_self hj] at hq
      cases hq
      rw [get_putRow _ _ _ _ (by rw [hs]; exact hi) (by rw [hs]; omega)]; exact hu
    · rw [List.getElem?_set_ne (Ne.symm e)] at hq
      rw [← hcc q y hq i u hu]
      by_cases e2 : q < j
      · have : (q + 1) * sz ≤ j * sz := Nat.mul_le_mul_right _ (by omega)
        rw [Nat.add_mul, Nat.one_mul] at this
        exact get_putRow_lt _ _ _ _ (by omega)
      · have : (j + 1) * sz ≤ q * sz := Nat.mul_le_mul_right _ (by omega)
        rw [Nat.add_mul, Nat.one_mul] at this
        exact get_putRow_ge _ _ _ _ (by rw [hs]; omega)
theorem Sep.setn {K : Heap → Prop} (s : Sep h0 (Sl enc sz v l :: F) h) (hs : ∀ x, (enc x).length = sz) (h1 : ∀ x, ∀ u ∈ enc x, Cell1 u) {j : Nat} (hj : j < l.length) (x : α) (H : ∀ h', Sep h0 (Sl enc sz v (l.set j x) :: F) h' → K h') : sStN h (eltP v j sz) (.agg (enc x).toArray) sz K := by
  obtain ⟨_, ⟨k, o, hk⟩, _⟩ := s.head
  obtain ⟨b, p, c, t, rfl, e, hb, hp, hput⟩ := o.put hs hj x
  rw [e, ev_stn_has hb (by simp [hs]) hp (by simpa using h1 x)]
  refine H _ (s.step (by rw [Heap.size_upd]; exact Nat.le_refl _) fun t' ⟨k2, o2, hk2⟩ => ?_)
  have : k2 = some b := by
    rcases o with ⟨h, _⟩ | ⟨b, p, n, m, c, t, e1, rfl, _⟩
    · cases h
    · rcases o2 with ⟨_, e, _⟩ | ⟨b', p, n, m, c, t, e2, e, _⟩
      · cases e
      · cases e; rw [e2, e1]
  subst this
  refine ⟨⟨t', ⟨some b, hput _ (Heap.has_upd hb.lt _ _), hk2⟩, fun _ => .inl⟩, fun i _ hn => ?_⟩
  unfold Heap.upd
  rw [Array.getElem?_setIfInBounds_ne fun e => hn ((hk2 i).2 (by rw [e]))]
theorem Sep.set1 {u : Value} {K : Heap → Prop} (s : Sep h0 (Sl enc 1 v l :: F) h) (hs : ∀ x, (enc x).length = 1) {j : Nat} (hj : j < l.length) (x : α) (hu : enc x = [u]) (hc : Cell1 u) (H : ∀ h', Sep h0 (Sl enc 1 v (l.set j x) :: F) h' → K h') : sSt h (eltP v j 1) u K := by
  obtain ⟨_, ⟨k, o, hk⟩, _⟩ := s.head
  obtain ⟨b, p, c, t, rfl, e, hb, hp, hput⟩ := o.put hs hj x
  rw [hu] at hput
  rw [e, ev_st_has hb (by omega) hc]
  refine H _ (s.step (by rw [Heap.size_upd]; exact Nat.le_refl _) fun t' ⟨k2, o2, hk2⟩ => ?_)
  have : k2 = some b := by
    rcases o with ⟨h, _⟩ | ⟨b, p, n, m, c, t, e1, rfl, _⟩
    · cases h
    · rcases o2 with ⟨_, e, _⟩ | ⟨b', p, n, m, c, t, e2, e, _⟩
      · cases e
      · cases e; rw [e2, e1]
  subst this
  refine ⟨⟨t', ⟨some b, hput _ (Heap.has_upd hb.lt _ _), hk2⟩, fun _ => .inl⟩, fun i _ hn => ?_⟩
  unfold Heap.upd
  rw [Array.getElem?_setIfInBounds_ne fun e => hn ((hk2 i).2 (by rw [e]))]
/-- One cell of element j is set: the element is another one. -/
theorem Sep.setc {u : Value} {K : Heap → Prop} (s : Sep h0 (Sl enc sz v l :: F) h) (hs : ∀ x, (enc x).length = sz) {j i : Nat} {x : α} (hj : l[j]? = some x) (y : α) (hi : i < sz) (hy : enc y = (enc x).set i u) (hc : Cell1 u) (H : ∀ h', Sep h0 (Sl enc sz v (l.set j y) :: F) h' → K h') : sOff (eltP v j sz) i (fun p => sSt h p u K) := by
  have hlt := (List.getElem?_eq_some_iff.1 hj).1
  obtain ⟨_, ⟨k, o, hk⟩, _⟩ := s.head
  have hx : (enc x).length = sz := hs x
  obtain ⟨b, p, c, t, rfl, e, hb, hp, hput⟩ := o.put hs hlt y
  rw [e, ev_off, ev_st_has hb (by omega) hc]
  have hcell : ∀ i u, (enc x)[i]? = some u → c[p + i]? = some u := by
    rcases o with ⟨h, _⟩ | ⟨b', p', n, m, c', t', e1, rfl, _, _, hb', _, hc'⟩
    · cases h
    · cases e1
      have e1 := hb.symm.trans hb'
      cases e1
      simp [eltP] at e
      subst e
      exact hc' j x hj
  have hrow : putRow c p (enc y) = c.setIfInBounds (p + i) u := by
    apply Array.ext_getElem?
    intro q
    have hyl : (enc y).length = sz := hs y
    by_cases q1 : q < p
    · rw [get_putRow_lt _ _ _ _ q1, Array.getElem?_setIfInBounds_ne (by omega)]
    · by_cases q2 : q < p + sz
      · obtain ⟨d, rfl⟩ : ∃ d, q = p + d := ⟨q - p, by omega⟩
        rw [get_putRow _ _ _ _ (by omega) (by omega), hy]
        by_cases q3 : d = i
        · subst q3
          rw [List.getElem?_set_self (by omega), Array.getElem?_setIfInBounds_self_of_lt (by omega)]
        · rw [List.getElem?_set_ne (Ne.symm q3), Array.getElem?_setIfInBounds_ne (by omega)]
          have hd : d < (enc x).length := by omega
          rw [List.getElem?_eq_getElem hd]
          exact (hcell d _ (List.getElem?_eq_getElem hd)).symm
      · rw [get_putRow_ge _ _ _ _ (by omega), Array.getElem?_setIfInBounds_ne (by omega)]
  refine H _ (s.step (by rw [Heap.size_upd]; exact Nat.le_refl _) fun t' ⟨k2, o2, hk2⟩ => ?_)
  have : k2 = some b := by
    rcases o with ⟨h, _⟩ | ⟨b, p, n, m, c, t, e1, rfl, _⟩
    · cases h
    · rcases o2 with ⟨_, e, _⟩ | ⟨b', p, n, m, c, t, e2, e, _⟩
      · cases e
      · cases e; rw [e2, e1]
  subst this
  refine ⟨⟨t', ⟨some b, hput _ (by rw [hrow]; exact Heap.has_upd hb.lt _ _), hk2⟩, fun _ => .inl⟩, fun i _ hn => ?_⟩
  unfold Heap.upd
  rw [Array.getElem?_setIfInBounds_ne fun e => hn ((hk2 i).2 (by rw [e]))]
theorem sep_own {k : Option Nat} {h' : Heap} (e : Ext h h') (o : Own enc sz h' k v l) (hk : ∀ b, k = some b → h.size ≤ b) : Sep h [Sl enc sz v l] h' :=
  ⟨⟨fun i => some i = k, ⟨_, _, ⟨k, o, fun _ => Iff.rfl⟩, fun _ h => h, fun _ _ h => h, fun b => by simp⟩, fun b hb => hk b hb.symm⟩, e⟩
theorem Sep.slit {z : Array Value} {t n : Nat} {ps : List (Nat × Nat × Value)} {K : Value → Heap → Prop} (s : Sep h0 F h) (hs : ∀ x, (enc x).length = sz) (l : List α) (hn : l.length = n)
    (hf : sFill z ps fun cs => cs = (l.flatMap enc).toArray) (H : ∀ v h', Cell1 v → Sep h0 (Sl enc sz v l :: F) h' → K v h') : sSlit h z ps t n K :=
  slit_intro hs l hn hf fun b v h' hb e o => H v h' (own_cell o) (s.add1 (sep_own e o fun _ e => by cases e; exact hb))
theorem Sep.make {z : Array Value} {e bytes : Nat} {p q : IntKind} {a b : Int} {K : Value → Heap → Prop} (s : Sep h0 F h) (hs : ∀ x, (enc x).length = sz) (x : α) (hz : z = (enc x).toArray) (n m : Nat) (ha : a = n) (hb : b = m) (hnm : n ≤ m) (h1 : bytes * m ≤ 2 ^ 40) (h2 : m ≤ 2 ^ 40)
    (H : ∀ v h', Cell1 v → Sep h0 (Sl enc sz v (List.replicate n x) :: F) h' → K v h') : sMk h (.int p a) (.int q b) z e bytes K := by
  subst ha hb hz
  refine ⟨p, q, n, m, rfl, rfl, by omega, by omega, by exact_mod_cast h1, by exact_mod_cast h2, ?_⟩
  have hc : Builtin.zeroCells (enc x).toArray m = ((List.replicate m x).flatMap enc).toArray := by
    have hx := hs x
    apply Array.ext_getElem?
    intro i
    have hfl : ((List.replicate m x).flatMap enc).length = m * sz := by rw [length_flat hs, List.length_replicate]
    by_cases hi : i < m * sz
    · have hz : 0 < sz := by rcases Nat.eq_zero_or_pos sz with e | e; (subst e; simp at hi); exact e
      have hj : i / sz < m := (Nat.div_lt_iff_lt_mul hz).2 hi
      have hm : i % sz < sz := Nat.mod_lt _ hz
      have g := get_flat hs (List.replicate m x) (i / sz) (i % sz) x (by simp [hj]) hm
      rw [show i / sz * sz + i % sz = i by rw [Nat.mul_comm]; exact Nat.div_add_mod i sz] at g
      have e2 : ((List.replicate m x).flatMap enc).toArray[i]? = (enc x)[i % sz]? := by rw [List.getElem?_toArray]; exact g
      rw [e2]
      simp [Builtin.zeroCells, hx, hi, hm]
    · rw [Array.getElem?_eq_none (by simp [Builtin.zeroCells, hx]; omega), Array.getElem?_eq_none (by simp [length_flat hs]; omega)]
  have o : Own enc sz (h.push (.cells ((List.replicate m x).flatMap enc).toArray e)) (some h.size) (.slice (some ⟨h.size, 0, none⟩) n m) (List.replicate n x) := by
    refine .inr ⟨h.size, 0, n, m, _, e, rfl, rfl, by simp, hnm, Heap.has_new _ _, by simp [length_flat hs], fun j y hj i u hu => ?_⟩
    have hi : i < sz := by have := (List.getElem?_eq_some_iff.1 hu).1; rw [hs] at this; exact this
    have hj' := (List.getElem?_eq_some_iff.1 hj).1
    simp at hj'
    have : y = x := by rw [List.getElem?_replicate, if_pos hj'] at hj; cases hj; rfl
    subst this
    have g := get_flat hs (List.replicate m y) j i y (by rw [List.getElem?_replicate, if_pos (by omega)]) hi
    rw [hu] at g
    simpa using g
  rw [show (Builtin.zeroCells (enc x).toArray (m : Int).toNat) = _ from hc, Int.toNat_natCast, Int.toNat_natCast]
  exact H _ _ trivial (s.add1 (sep_own (Ext.refl h).push o fun _ e => by cases e; exact Nat.le_refl _))
end

/-! ### What a frame lets be read -/
section
variable {α : Type} {enc : α → List Value} {sz : Nat} {h0 h : Heap} {A B C D : HP} {F : List HP} {v : Value} {l : List α}
def Rd (enc : α → List Value) (sz : Nat) (h0 : Heap) (F : List HP) (v : Value) (l : List α) : Prop := ∀ L h, Sep h0 (L ++ F) h → Seq enc sz h v l
theorem Rd.base (a : Seq enc sz h0 v l) : Rd enc sz h0 F v l := fun _ _ s => a.ext s.ext
theorem Rd.weak (r : Rd enc sz h0 F v l) : Rd enc sz h0 (A :: F) v l := fun L h s => r (L ++ [A]) h (by rw [List.append_assoc]; exact s)
theorem Rd.own0 : Rd enc sz h0 (Sl enc sz v l :: F) v l := fun L h s => (s.perm (List.perm_middle)).seq
theorem Rd.own1 : Rd enc sz h0 (A :: Sl enc sz v l :: F) v l := Rd.own0.weak
theorem Rd.own2 : Rd enc sz h0 (A :: B :: Sl enc sz v l :: F) v l := Rd.own1.weak
theorem Rd.own3 : Rd enc sz h0 (A :: B :: C :: Sl enc sz v l :: F) v l := Rd.own2.weak
theorem Rd.cut (r : Rd enc sz h0 F v l) {i j : Nat} (hi : i ≤ j) (hj : j ≤ l.length) : Rd enc sz h0 F (HW.cutP v i j sz) ((l.take j).drop i) := fun L h s => (r L h s).cutP hi hj
theorem Rd.at0 (r : Rd enc sz h0 F v l) (s : Sep h0 F h) : Seq enc sz h v l := r [] h s
theorem Rd.at1 (r : Rd enc sz h0 F v l) (s : Sep h0 (A :: F) h) : Seq enc sz h v l := r [_] h s
theorem Rd.at2 (r : Rd enc sz h0 F v l) (s : Sep h0 (A :: B :: F) h) : Seq enc sz h v l := r [_, _] h s
theorem Rd.at3 (r : Rd enc sz h0 F v l) (s : Sep h0 (A :: B :: C :: F) h) : Seq enc sz h v l := r [_, _, _] h s
theorem Rd.at4 (r : Rd enc sz h0 F v l) (s : Sep h0 (A :: B :: C :: D :: F) h) : Seq enc sz h v l := r [_, _, _, _] h s
end
end Go.HW
