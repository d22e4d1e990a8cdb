/- Slices of structs that came in as arguments. -/
import Derived.Test.YtbgipcikkedloaaHwChg
import Derived.Deep.Slices
import Derived.Lib.SmallJoins
import Derived.DataReads
namespace Go.HW
open Go

/-- A slice whose elements are read one by one. -/
theorem open_seq {α : Type} [Inhabited α] {enc : α → List Value} {sz : Nat} {good : α → Prop} {H : Type} {en : TypeId × Value → H} {P : Program} {w : World} {base : Nat} {held : Bool} {t e : TypeId} (ht : P.underlying t = some (.slice e)) (hc : P.cellsOf e = sz) (h0 : 0 < sz) (hs : ∀ x, (enc x).length = sz)
    (elem : ∀ (n : Nat) (cs : List Value) (x : DataW H × List MemPlace), cs.length = sz → DataW.trod en P w base (fun _ => true) held n e cs = some x → ∃ y, cs = enc y ∧ good y)
    {fuel : Nat} {a : Option Addr} {len cap : Nat} {x : DataW H × List MemPlace} (h : DataW.trod en P w base (fun _ => true) held fuel t (Value.slice a len cap).cells.toList = some x) :
    ∃ l : List α, Seq enc sz w.heap (.slice a len cap) l ∧ l.length ≤ maxLen ∧ ∀ y ∈ l, good y := by
  rcases Deep.open_slice ht h with ⟨hcs, _⟩ | ⟨x, l, c, m, n, D, Pl, hcs, _, hl, hm, hmm, _, hel⟩
  · simp [Value.cells] at hcs
    obtain ⟨rfl, rfl, rfl⟩ := hcs
    exact ⟨[], ⟨_, _, _, rfl, rfl, Nat.le_refl _, .inl rfl⟩, by simp, by simp⟩
  · simp [Value.cells] at hcs
    obtain ⟨rfl, rfl, rfl⟩ := hcs
    simp at hmm
    subst hmm
    have hx : ∀ i, i < len → ∃ y : α, w.cells? base (x.add (i * sz)) sz = some (enc y) ∧ good y := fun i hi => by
      obtain ⟨cs', h1, h2⟩ := hel i (by omega)
      rw [hc] at h1
      obtain ⟨y, rfl, hy⟩ := elem _ _ _ (World.cells?_some h1).2.1 h2
      exact ⟨y, h1, hy⟩
    obtain ⟨f, hf⟩ := Deep.choose_lt hx
    refine ⟨(List.range len).map f, ⟨_, _, _, rfl, by simp, hl, ?_⟩, by simp; omega, fun y hy => ?_⟩
    · by_cases hz : len = 0
      · exact .inl hz
      right
      obtain ⟨b, o, sp⟩ := x
      have c0 := (World.cells?_some (hf 0 (by omega)).1).2.2 0 h0
      have hlt0 : 0 < (enc (f 0)).length := by rw [hs]; exact h0
      rw [List.getElem?_eq_getElem hlt0] at c0
      have hsp : sp = none := by
        simp [Addr.add, World.cell?] at c0
        split at c0
        · cases sp with
          | none => rfl
          | some _ => simp at c0
        · cases c0
      subst hsp
      have hb : b < w.heap.size := by
        by_cases hb : b < w.heap.size
        · exact hb
        · simp [Addr.add, World.cell?, hb] at c0
      refine ⟨b, o, rfl, hb, fun j y hj i u hu => ?_⟩
      have hjl : j < len := by have := (List.getElem?_eq_some_iff.1 hj).1; simpa using this
      have hy : y = f j := by simp [hjl] at hj; exact hj.symm
      subst hy
      have hi : i < sz := by have := (List.getElem?_eq_some_iff.1 hu).1; rw [hs] at this; exact this
      have c := (World.cells?_some (hf j hjl).1).2.2 i hi
      have e1 : ∀ p : Nat, (Addr.mk b o none).add p = ⟨b, o + p, none⟩ := fun p => by unfold Addr.add; split <;> simp_all
      have e2 : ∀ p q : Nat, (Addr.mk b p none).add q = ⟨b, p + q, none⟩ := fun p q => by unfold Addr.add; split <;> simp_all
      rw [e1, e2, cell_at rfl, hu] at c
      exact c
    · simp at hy
      obtain ⟨i, hi, rfl⟩ := hy
      exact (hf i hi).2

/-- An element of two numbers. -/
theorem elem_two {k0 k1 : IntKind} {H : Type} {en : TypeId × Value → H} {P : Program} {w : World} {base : Nat} {spare : Nat → Bool} {held : Bool} {e : TypeId} {f0 f1 : Field} (hs : P.underlying e = some (.struct #[f0, f1])) (o0 : f0.offset = 0) (o1 : f1.offset = 1) (c0 : P.cellsOf f0.type = 1) (c1 : P.cellsOf f1.type = 1)
    (u0 : P.underlying f0.type = some (.int k0)) (u1 : P.underlying f1.type = some (.int k1)) (n : Nat) (cs : List Value) (x : DataW H × List MemPlace) (hl : cs.length = 2) (h : DataW.trod en P w base spare held n e cs = some x) :
    ∃ y : Int × Int, cs = [.int k0 y.1, .int k1 y.2] ∧ ((Lit.int k0 y.1).wf = true ∧ (Lit.int k1 y.2).wf = true) := by
  obtain ⟨y0, y1, m, _, _, h0, h1⟩ := _root_.Go.ChangeShapes.trod_struct2 hs h
  match cs, hl with
  | [a, b], _ =>
    rw [o0, c0] at h0
    rw [o1, c1] at h1
    obtain ⟨p, e0, _, w0⟩ := DataW.trod_int u0 h0
    obtain ⟨q, e1, _, w1⟩ := DataW.trod_int u1 h1
    simp at e0 e1
    subst e0 e1
    exact ⟨(p, q), rfl, w0, w1⟩
end Go.HW
