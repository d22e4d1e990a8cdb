/- append(x, make([]T, n)...): zero cells behind a slice. -/
import Derived.Test.YtbgipcikkedloaaHwCat
set_option linter.unusedSimpArgs false
namespace Go.HW
open Go
def sAppZ (h : Heap) (s x : Value) (z : Array Value) (e bytes : Nat) (K : Value → Heap → Prop) : Prop :=
  ∃ base sl sc n new, s = .slice base sl sc ∧ (∃ k, x = .int k (n : Nat)) ∧ new = Builtin.zeroCells z n ∧ new.size = n * z.size ∧ (sl + n) * bytes ≤ 2 ^ 40 ∧ 0 < bytes ∧ (∀ u ∈ new.toList, Cell1 u) ∧
    (sl + n ≤ sc → (base = none ∧ K (.slice none (sl + n) sc) h) ∨ ∃ b o, base = some ⟨b, o, none⟩ ∧ h.fits b (o + sl * z.size) (n * z.size) ∧ K (.slice base (sl + n) sc) (h.puts b (o + sl * z.size) new.toList)) ∧
    (sc < sl + n → ∃ old, rowOf h s z.size sl old ∧ ∀ c, sl + n ≤ c → c < 2 ^ 63 → K (.slice (some ⟨h.size, 0, none⟩) (sl + n) c) (h.push (.cells (old ++ new ++ Builtin.zeroCells z (c - (sl + n))) e)))
section
variable {P : Program} {ρ : Operand → Value}
variable {dst : Option Tmp} {tp : TypeId} {pos : String} {after : Array Edge} {g : Option (Nat × Bool)}
theorem run_appendz_eq {w : World} {h : Heap} (hw : w.heap = h) {t t2 e bytes n sl sc : Nat} {i : TypeInfo} {kk k : IntKind} {zv : Value} {z : Array Value} {base : Option Addr} (ht : P.underlying t = some (.slice e)) (ht2 : P.underlying t2 = some (.int kk))
    (hi : ∀ w, (typeInfo e).run P w = .ok i w) (hib : i.bytes = bytes) (hs : ∀ w, (sizeOf e).run P w = .ok z.size w) (hz : ∀ w, (zeroValue e).run P w = .ok zv w) (hzz : zv.cells = z) (ty : TypeId)
    (hb : (sl + n) * bytes ≤ 2 ^ 40) (hb0 : 0 < bytes) :
    (Builtin.append_ #[t, t2] ty #[.slice base sl sc, .int k (n : Nat)]).run P w = (if sl + n ≤ sc then
      (match base with
        | some a => ((storeCells (a.add (sl * z.size)) (Builtin.zeroCells z n).toList).run P w).andThen fun _ w' => .ok (.slice base (sl + n) sc) w'
        | none => .ok (.slice base (sl + n) sc) w)
    else (do
      let newCap ← choose (.appendCap (sl + n) sc e)
      askRoom (newCap * bytes)
      let old ← Builtin.firstCells z.size sl (.slice base sl sc)
      let rest := Builtin.zeroCells z (newCap - (sl + n))
      pure (.slice (some (← newRow e (old ++ Builtin.zeroCells z n ++ rest))) (sl + n) newCap) : Sem Value).run P w) := by
  have hu : ∀ w, (underlying t).run P w = .ok (.slice e) w := fun w => by simp [underlying, go_sem, ht]
  have hu2 : ∀ w, (underlying t2).run P w = .ok (.int kk) w := fun w => by simp [underlying, go_sem, ht2]
  have hnn : n ≤ 2 ^ 40 := by
    have : sl + n ≤ (sl + n) * bytes := Nat.le_mul_of_pos_right _ hb0
    omega
  have hw64 : IntKind.i64.wrap (n : Int) = (n : Int) := wrap_i64 (by omega) (by omega)
  have hai : (asInt (.int k (n : Int))).run P w = .ok (n : Int) w := rfl
  have hneg : ¬ (n : Int) < 0 := by omega
  have hbig : ¬ (n : Int) * (bytes : Int) > 2 ^ 48 := by
    have h1 : n * bytes ≤ (sl + n) * bytes := Nat.mul_le_mul_right _ (by omega)
    have h2 : ((n * bytes : Nat) : Int) ≤ 2 ^ 40 := by exact_mod_cast Nat.le_trans h1 hb
    rw [Int.natCast_mul] at h2
    omega
  have happ : ∀ w2 : World, ((if n * z.size = 0 then pure #[] else do
      let a ← zeroValue e
      pure (Builtin.zeroCells a.cells n)) : Sem (Array Value)).run P w2 = .ok (Builtin.zeroCells z n) w2 := by
    intro w2
    split
    · rename_i h0
      have : Builtin.zeroCells z n = #[] := by unfold Builtin.zeroCells; rw [h0]; simp
      rw [this]; rfl
    · simp only [Sem.run_bind, hz, Result.andThen_ok, Sem.run_pure, hzz]
  unfold Builtin.append_
  simp only [List.getElem?_toArray, List.getElem?_cons_zero, List.getElem?_cons_succ, Sem.run_bind, hu, hu2, Result.andThen_ok, hs, Sem.run_pure, if_true, hai, hw64, if_neg hneg, hi, hib, if_neg hbig, Int.toNat_natCast, Bool.not_true, Bool.false_eq_true, if_false]
  by_cases hc : sl + n ≤ sc
  · rw [if_pos hc, if_pos hc]
    simp only [Sem.run_bind, happ, Result.andThen_ok]
    cases base with
    | none => rfl
    | some a => simp only [Sem.run_bind, Sem.run_pure]
  · rw [if_neg hc, if_neg hc]
    have hcap := nextcap_le (sl + n) sc (by omega)
    have hnb : ¬ Builtin.nextslicecap (sl + n) sc * bytes > 2 ^ 48 := by
      have h1 : Builtin.nextslicecap (sl + n) sc * bytes ≤ 2 * (sl + n) * bytes := Nat.mul_le_mul_right _ hcap
      have h2 : 2 * (sl + n) * bytes = 2 * ((sl + n) * bytes) := by rw [Nat.mul_assoc]
      omega
    have hb1 : ¬ (((sl + n : Nat) : Int) > IntKind.i64.max ∧ (True ∨ bytes = 0)) := by
      rintro ⟨hx, _⟩
      have : IntKind.i64.max = 9223372036854775807 := by decide
      rw [this] at hx
      have : sl + n ≤ (sl + n) * bytes := Nat.le_mul_of_pos_right _ hb0
      omega
    simp only [Sem.run_bind, hi, hib, hz, hzz, Result.andThen_ok, if_neg hb1, if_neg hnb, Sem.run_pure, happ]

theorem d_appz {h : Heap} {K : Value → Heap → Prop} {X Y : Operand} {t t2 e bytes : Nat} {i : TypeInfo} {kk : IntKind} {zv s x : Value} {z : Array Value} (ht : P.underlying t = some (.slice e)) (ht2 : P.underlying t2 = some (.int kk))
    (hi : ∀ w, (typeInfo e).run P w = .ok i w) (hib : i.bytes = bytes) (hs : ∀ w, (sizeOf e).run P w = .ok z.size w) (hz : ∀ w, (zeroValue e).run P w = .ok zv w) (hzz : zv.cells = z) (hx : ρ X = s) (hy : ρ Y = x) (H : sAppZ h s x z e bytes K) :
    Does P ρ ⟨dst, .call ⟨.builtin .append, #[X, Y], #[t, t2]⟩, tp, pos, after, g⟩ h K := by
  obtain ⟨base, sl, sc, n, new, rfl, ⟨k, rfl⟩, hr, hnz, hb, hb0, h1, hroom, hgrow⟩ := H
  intro w hw
  have e1 : execOp ρ ⟨dst, .call ⟨.builtin .append, #[X, Y], #[t, t2]⟩, tp, pos, after, g⟩ = Sem.bind (Builtin.append_ #[t, t2] tp (#[X, Y].map ρ)) fun v => Sem.pure (Next.value v) := rfl
  rw [show #[X, Y].map ρ = #[ρ X, ρ Y] by simp] at e1
  have hrun := run_appendz_eq (P := P) (k := k) hw ht ht2 hi hib hs hz hzz tp (base := base) (sc := sc) (n := n) hb hb0
  rw [← hr] at hrun
  suffices hh : ∃ v w', (Builtin.append_ #[t, t2] tp #[.slice base sl sc, .int k (n : Nat)]).run P w = .ok v w' ∧ K v w'.heap ∧ Kept w w' by
    obtain ⟨v, w', h2, h3, h4⟩ := hh
    refine .inl ⟨v, w', ?_, h3, h4⟩
    rw [e1, hx, hy, run_bindS, h2]
    rfl
  rw [hrun]
  by_cases hc : sl + n ≤ sc
  · rw [if_pos hc]
    rcases hroom hc with ⟨rfl, hk⟩ | ⟨b, o, rfl, hf, hk⟩
    · exact ⟨_, w, rfl, by rw [hw]; exact hk, Kept.refl w⟩
    · obtain ⟨w', r1, r2, r3⟩ := run_storeCells_row (P := P) new.toList 0 (b := b) (o := o + sl * z.size) hw h1 (by simpa [hnz] using hf)
      refine ⟨_, w', ?_, by rw [r2]; exact hk, r3⟩
      have : (Addr.add ⟨b, o, none⟩ (sl * z.size)) = ⟨b, o + sl * z.size, none⟩ := by unfold Addr.add; split <;> simp_all
      simp only [this, r1, Result.andThen_ok]
  · rw [if_neg hc]
    obtain ⟨old, ho, hk⟩ := hgrow (by omega)
    have hcut : ∀ tt : Nat, sl + n ≤ (Question.appendCap (sl + n) sc e).cut tt ∧ ((sl + n < 2 ^ 63) → (Question.appendCap (sl + n) sc e).cut tt < 2 ^ 63) := fun tt => by
      refine ⟨by simp [Question.cut], fun hlt => ?_⟩
      have : tt % (2 ^ 63 - (sl + n)) < 2 ^ 63 - (sl + n) := Nat.mod_lt _ (by omega)
      simp only [Question.cut]
      omega
    have hsm : sl + n < 2 ^ 63 := by
      have : sl + n ≤ (sl + n) * bytes := Nat.le_mul_of_pos_right _ hb0
      omega
    let c := (Question.appendCap (sl + n) sc e).cut (w.tape w.drawn (.appendCap (sl + n) sc e))
    have hro : ∀ w2 : World, w2.heap = h → (Builtin.firstCells z.size sl (.slice base sl sc)).run P w2 = .ok old w2 := fun w2 hw2 => run_first hw2 ho
    refine ⟨.slice (some ⟨h.size, 0, none⟩) (sl + n) c, { w with drawn := w.drawn + 1, heap := w.heap.push (.cells (old ++ new ++ Builtin.zeroCells z (c - (sl + n))) e) }, ?_, ?_, ⟨rfl, rfl, rfl⟩⟩
    · have hask : ∀ (m : Nat) (w2 : World), (askRoom m).run P w2 = .ok () w2 := fun m w2 => by unfold askRoom; split <;> rfl
      have hch : (choose (.appendCap (sl + n) sc e)).run P w = .ok c { w with drawn := w.drawn + 1 } := rfl
      simp only [Sem.run_bind, hch, Result.andThen_ok, hask, hro { w with drawn := w.drawn + 1 } hw, run_newRow, Sem.run_pure]
      rw [hw]
    · show K _ (w.heap.push _)
      rw [hw]
      exact hk c (hcut _).1 ((hcut _).2 hsm)
end
section
variable {α : Type} {enc : α → List Value} {sz : Nat} {h0 h : Heap} {F : List HP} {v : Value} {l : List α}
theorem ev_appz {β : Type} {enc : β → List Value} {sz bytes e : Nat} {z : Array Value} {h : Heap} {k : Option Nat} {v w : Value} {l r : List β} {K : Value → Heap → Prop} (hz : z.size = sz) (h0 : 0 < sz)
    (hs : ∀ x, (enc x).length = sz) (h1 : ∀ x, ∀ u ∈ enc x, Cell1 u) (o : Own enc sz h k v l) (hl : ∃ k, w = .int k (r.length : Nat)) (hr : (r.flatMap enc).toArray = Builtin.zeroCells z r.length)
    (hb : (l.length + r.length) * bytes ≤ 2 ^ 40) (hb0 : 0 < bytes)
    (H : ∀ k' v' h', Own enc sz h' k' v' (l ++ r) → (k' = k ∨ k' = some h.size) → h.size ≤ h'.size → (∀ i, i < h.size → some i ≠ k → h'[i]? = h[i]?) → K v' h') : sAppZ h v w z e bytes K := by
  subst hz
  have hf : (r.flatMap enc).length = r.length * z.size := length_flat hs r
  have hcell : ∀ u ∈ (r.flatMap enc).toArray.toList, Cell1 u := fun u hu => by
    simp at hu
    obtain ⟨x, _, hx⟩ := hu
    exact h1 x u hx
  rcases o with ⟨rfl, rfl, rfl⟩ | ⟨b, p, n, m, c, t, rfl, rfl, hn, hm, hhas, hcs, hc⟩
  · refine ⟨none, 0, 0, r.length, _, rfl, hl, hr, by simpa using hf, by simpa using hb, hb0, hcell, fun x => ?_, fun x => ⟨#[], rfl, fun q hq hq2 => ?_⟩⟩
    · left
      have : r = [] := List.eq_nil_of_length_eq_zero (by omega)
      subst this
      exact ⟨rfl, H none _ h .nil (.inl rfl) (Nat.le_refl _) fun _ _ _ => rfl⟩
    · refine H (some h.size) _ _ (.inr ⟨h.size, 0, _, q, _, e, rfl, rfl, by simp, by omega, Heap.has_new _ _, ?_, ?_⟩) (.inr rfl) (by rw [Array.size_push]; omega) (fun i hi _ => by rw [Array.getElem?_push, if_neg (by omega)])
      · simp [Builtin.zeroCells, hf]
        rw [← Nat.add_mul]; exact Nat.mul_le_mul_right _ (by omega)
      · intro j x hj i u hu
        simp at hj
        have hi : i < z.size := by have := (List.getElem?_eq_some_iff.1 hu).1; rw [hs] at this; exact this
        have g := get_flat hs r j i x hj hi
        rw [hu] at g
        have hlt := (List.getElem?_eq_some_iff.1 g).1
        rw [Nat.zero_add, Array.getElem?_append_left (by simpa using hlt), Array.getElem?_append_right (by simp)]
        simpa using g
  · subst hn
    have hml := Nat.mul_le_mul_right z.size hm
    refine ⟨_, l.length, m, r.length, _, rfl, hl, hr, by simpa using hf, hb, hb0, hcell, fun x => .inr ⟨b, p, rfl, ?_, ?_⟩, fun x => ⟨c.extract p (p + l.length * z.size), ?_, fun q hq hq2 => ?_⟩⟩
    · refine hhas.fits ?_
      have := Nat.mul_le_mul_right z.size x
      rw [Nat.add_mul] at this; omega
    · rw [hhas.puts]
      refine H (some b) _ _ (.inr ⟨b, p, _, m, _, t, rfl, rfl, by simp, x, Heap.has_upd hhas.lt _ _, by rw [size_putRow]; exact hcs, ?_⟩) (.inl rfl) (by simp) (fun i hi hne => ?_)
      · intro j y hj i u hu
        have hi : i < z.size := by have := (List.getElem?_eq_some_iff.1 hu).1; rw [hs] at this; exact this
        by_cases hjl : j < l.length
        · rw [List.getElem?_append_left hjl] at hj
          rw [get_putRow_lt]
          · exact hc j y hj i u hu
          · have b1 : j * z.size + i < l.length * z.size := by
              calc j * z.size + i < j * z.size + z.size := by omega
                _ = (j + 1) * z.size := by rw [Nat.add_mul, Nat.one_mul]
                _ ≤ l.length * z.size := Nat.mul_le_mul_right _ hjl
            omega
        · rw [List.getElem?_append_right (by omega)] at hj
          have g := get_flat hs r (j - l.length) i y hj hi
          rw [hu] at g
          have hlt := (List.getElem?_eq_some_iff.1 g).1
          have e3 : j * z.size = l.length * z.size + (j - l.length) * z.size := by rw [← Nat.add_mul]; congr 1; omega
          have e2 : p + j * z.size + i = p + l.length * z.size + ((j - l.length) * z.size + i) := by omega
          rw [e2, get_putRow _ _ _ _ (by simpa using hlt)]
          · simpa using g
          · have := Nat.mul_le_mul_right z.size x
            rw [Nat.add_mul] at this
            have q1 : (r.flatMap enc).toArray.toList.length = (r.flatMap enc).length := (by simp)
            rw [q1]; omega
      · unfold Heap.upd
        rw [Array.getElem?_setIfInBounds_ne]
        intro e; subst e; exact hne rfl
    · have := hhas.row (o := p) (n := l.length * z.size) (by omega)
      exact .inr ⟨rfl, this⟩
    · have hel : (c.extract p (p + l.length * z.size)).size = l.length * z.size := by
        simp; omega
      refine H (some h.size) _ _ (.inr ⟨h.size, 0, _, q, _, e, rfl, rfl, by simp, by omega, Heap.has_new _ _, ?_, ?_⟩) (.inr rfl) (by rw [Array.size_push]; omega) (fun i hi _ => by rw [Array.getElem?_push, if_neg (by omega)])
      · rw [Array.size_append, Array.size_append, hel]
        simp [Builtin.zeroCells, hf]
        rw [← Nat.add_mul, ← Nat.add_mul]; exact Nat.mul_le_mul_right _ (by omega)
      · intro j y hj i u hu
        have hi : i < z.size := by have := (List.getElem?_eq_some_iff.1 hu).1; rw [hs] at this; exact this
        rw [Nat.zero_add]
        by_cases hjl : j < l.length
        · rw [List.getElem?_append_left hjl] at hj
          have b1 : j * z.size + i < l.length * z.size := by
            calc j * z.size + i < j * z.size + z.size := by omega
              _ = (j + 1) * z.size := by rw [Nat.add_mul, Nat.one_mul]
              _ ≤ l.length * z.size := Nat.mul_le_mul_right _ hjl
          rw [Array.getElem?_append_left (by rw [Array.size_append, hel]; omega), Array.getElem?_append_left (by rw [hel]; exact b1), Array.getElem?_extract, if_pos (by omega)]
          have := hc j y hj i u hu
          rw [Nat.add_assoc] at this
          exact this
        · rw [List.getElem?_append_right (by omega)] at hj
          have g := get_flat hs r (j - l.length) i y hj hi
          rw [hu] at g
          have hlt := (List.getElem?_eq_some_iff.1 g).1
          have e3 : j * z.size = l.length * z.size + (j - l.length) * z.size := by rw [← Nat.add_mul]; congr 1; omega
          have e2 : j * z.size + i = l.length * z.size + ((j - l.length) * z.size + i) := by omega
          rw [e2, Array.getElem?_append_left (by have q1 : (r.flatMap enc).toArray.size = (r.flatMap enc).length := (by simp); rw [Array.size_append, hel, q1]; omega), Array.getElem?_append_right (by rw [hel]; omega), hel, Nat.add_sub_cancel_left]
          simpa using g

theorem zero_flat (hs : ∀ x, (enc x).length = sz) (x : α) (m : Nat) : ((List.replicate m x).flatMap enc).toArray = Builtin.zeroCells (enc x).toArray m := by
  have hx := hs x
  apply Array.ext_getElem?
  intro i
  by_cases hi : i < m * sz
  · have hz : 0 < sz := by rcases Nat.eq_zero_or_pos sz with e | e; (subst e; simp at hi); exact e
    have hj : i / sz < m := (Nat.div_lt_iff_lt_mul hz).2 hi
    have hm : i % sz < sz := Nat.mod_lt _ hz
    have g := get_flat hs (List.replicate m x) (i / sz) (i % sz) x (by simp [hj]) hm
    rw [show i / sz * sz + i % sz = i by rw [Nat.mul_comm]; exact Nat.div_add_mod i sz] at g
    have e2 : ((List.replicate m x).flatMap enc).toArray[i]? = (enc x)[i % sz]? := by rw [List.getElem?_toArray]; exact g
    rw [e2]
    simp [Builtin.zeroCells, hx, hi, hm]
  · rw [Array.getElem?_eq_none (by simp [length_flat hs]; omega), Array.getElem?_eq_none (by simp [Builtin.zeroCells, hx]; omega)]
theorem Sep.appz {bytes e n : Nat} {z : Array Value} {w : Value} {k : IntKind} {x : α} {K : Value → Heap → Prop} (s : Sep h0 (Sl enc sz v l :: F) h) (hw : w = .int k (n : Nat)) (hz : z = (enc x).toArray) (hp : 0 < sz) (hs : ∀ x, (enc x).length = sz) (h1 : ∀ x, ∀ u ∈ enc x, Cell1 u)
    (hb : (l.length + n) * bytes ≤ 2 ^ 40) (hb0 : 0 < bytes) (H : ∀ v' h', Cell1 v' → Sep h0 (Sl enc sz v' (l ++ List.replicate n x) :: F) h' → K v' h') : sAppZ h v w z e bytes K := by
  obtain ⟨t, ⟨k1, o, hk⟩, _, _, fin⟩ := s.focus
  refine ev_appz (r := List.replicate n x) (by rw [hz]; simp [hs]) hp hs h1 o ⟨k, by rw [List.length_replicate]; exact hw⟩ (by rw [List.length_replicate, hz]; exact zero_flat hs x n) (by rw [List.length_replicate]; exact hb) hb0 (fun k' v' h' o' hk' hz' hh => H v' h' (own_cell o') (fin [Sl enc sz v' (l ++ List.replicate n x)] (fun i => some i = k') h' ⟨_, fun _ => False, ⟨k', o', fun _ => Iff.rfl⟩, fun _ h => h, fun _ _ h => h, fun b => by simp⟩ (fun i hi => ?_) hz' fun i hi hn => hh i hi fun e => hn ((hk i).2 e)))
  rcases hk' with e | e
  · exact .inl ((hk i).2 (hi.trans e))
  · rw [e] at hi; cases hi; exact .inr (Nat.le_refl _)
end
end Go.HW
