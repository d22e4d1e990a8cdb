/- Package variables laid by the program's text: their cells. -/
import Derived.Test.YtjlpgakoedigoaaDoorHwB
import Derived.LaidMore
import Derived.LaidHandle
import Derived.LaidLaws
import Derived.MakeChecks
namespace Go.HW
open Go

/-- The cells of a datum of numbers. -/
def flatD {H : Type} : DataW H → List Value
  | .lit (.int k n) => [.int k n]
  | .agg parts => flatDs parts
  | _ => []
 where flatDs {H : Type} : List (DataW H) → List Value
  | [] => []
  | d :: r => flatD d ++ flatDs r
def Shape.flat : Shape → Bool
  | .int _ => true
  | .agg r => r.flat
  | .nil => true
  | .cons s r => s.flat && r.flat
  | _ => false

section
variable {H : Type} {P : Program} {w : World} {base : Nat} {held : Bool}
def FF (en : TypeId × Value → H) (P : Program) (w : World) (base : Nat) (held : Bool) (s : Shape) : Prop :=
  (∀ t, isT P s t = true → s.flat = true → ∀ (n : Nat) (cs : List Value) (x : DataW H × List MemPlace), cs.length = s.size → DataW.trod en P w base (fun _ => true) held n t cs = some x → cs = flatD x.1) ∧
  (∀ l off (cs : List Value) (xs : List (DataW H × List MemPlace)), isR P s l off = true → s.flat = true → cs.length = off + s.size → xs.length = l.length → (∀ (i : Nat) (p : Nat × TypeId), l[i]? = some p → ∃ n, DataW.trod en P w base (fun _ => true) held n p.2 ((cs.drop p.1).take (P.cellsOf p.2)) = xs[i]?) → cs.drop off = flatD.flatDs (xs.map (·.1)))
theorem ff (en : TypeId × Value → H) (P : Program) (w : World) (base : Nat) (held : Bool) : ∀ s : Shape, FF en P w base held s
  | .int k => by
    refine ⟨fun t ht _ n cs x _ h => ?_, fun l off cs xs h _ _ _ _ => by unfold isR at h; cases h⟩
    unfold isT at ht
    split at ht
    · rename_i k' hu
      obtain rfl : k = k' := by simpa using ht
      obtain ⟨m, e, ex, _⟩ := DataW.trod_int hu h
      rw [e, ex]; rfl
    · cases ht
  | .bool => ⟨fun _ _ h => (by cases h), fun _ _ _ _ h => (by unfold isR at h; cases h)⟩
  | .slice _ => ⟨fun _ _ h => (by cases h), fun _ _ _ _ h => (by unfold isR at h; cases h)⟩
  | .agg r => by
    refine ⟨fun t ht hf n cs x hl h => ?_, fun l off cs xs h _ _ _ _ => by unfold isR at h; cases h⟩
    unfold isT at ht
    simp only [Bool.and_eq_true, beq_iff_eq] at ht
    obtain ⟨hc, ht⟩ := ht
    have ih := (ff en P w base held r).2
    split at ht
    · rename_i fs hu
      obtain ⟨xs, m, _, e, _, hlen, hg⟩ := DataW.trod_struct hu h
      have := ih _ 0 cs xs ht hf (by rw [hl]; simp [Shape.size]) (by simpa using hlen) (fun i p hp => by
        simp only [List.getElem?_map, Option.map_eq_some_iff] at hp
        obtain ⟨f, hf1, rfl⟩ := hp
        exact ⟨m, hg i f (by simpa using hf1)⟩)
      rw [e]; simpa [flatD] using this
    · rename_i k e hu
      obtain ⟨xs, m, _, ex, _, hlen, hg⟩ := DataW.trod_array hu h
      have := ih _ 0 cs xs ht hf (by rw [hl]; simp [Shape.size]) (by simpa using hlen) (fun i p hp => by
        simp only [List.getElem?_map, Option.map_eq_some_iff] at hp
        obtain ⟨j, hj, rfl⟩ := hp
        obtain ⟨hi, e2⟩ := List.getElem?_eq_some_iff.1 hj
        simp only [List.getElem_range] at e2
        subst e2
        exact ⟨m, hg i (by simpa using hi)⟩)
      rw [ex]; simpa [flatD] using this
    · cases ht
  | .nil => by
    refine ⟨fun t ht => (by unfold isT at ht; cases ht), fun l off cs xs h _ hl hx hp => ?_⟩
    have e : cs.drop off = [] := List.drop_eq_nil_of_le (by simp [Shape.size] at hl; omega)
    cases l with
    | nil => cases xs with
      | nil => exact e
      | cons _ _ => simp at hx
    | cons _ _ => unfold isR at h; cases h
  | .cons s r => by
    refine ⟨fun t ht => (by unfold isT at ht; cases ht), fun l off cs xs h hf hl hx hp => ?_⟩
    cases l with
    | nil => unfold isR at h; cases h
    | cons p l =>
      cases xs with
      | nil => simp at hx
      | cons x xs =>
      obtain ⟨o, t⟩ := p
      unfold isR at h
      simp only [Bool.and_eq_true, beq_iff_eq] at h
      obtain ⟨⟨⟨rfl, hc⟩, hs⟩, hr⟩ := h
      simp only [Shape.flat, Bool.and_eq_true] at hf
      obtain ⟨n, hx0⟩ := hp 0 (o, t) rfl
      simp only [Shape.size] at hl
      rw [hc] at hx0
      have h1 := (ff en P w base held s).1 t hs hf.1 n _ x (by rw [List.length_take, List.length_drop]; omega) hx0
      have h2 := (ff en P w base held r).2 l (o + s.size) cs xs hr hf.2 (by omega) (by simpa using hx) (fun i p hp' => hp (i + 1) p hp')
      show cs.drop o = flatD x.1 ++ flatD.flatDs (xs.map (·.1))
      rw [← h1, ← h2, ← List.drop_drop, List.take_append_drop]
end

section
variable {P : Program} {w : World}
theorem mem_look {laid : List (String × DataW Unit)} {name : String} {d : DataW Unit} (hm : laid.lookup name = some d) : (name, d) ∈ laid := by
  induction laid with
  | nil => cases hm
  | cons x r ih =>
    obtain ⟨n, d'⟩ := x
    rw [List.lookup_cons] at hm
    split at hm
    · rename_i e
      cases hm
      have : name = n := by simpa using e
      rw [this]; exact List.mem_cons_self
    · exact List.mem_cons_of_mem _ (ih hm)
theorem laid_at {laid : List (String × DataW Unit)} : ∀ {ps : List MemPlace}, DataW.LaidVars P w laid ps → ∀ {name : String} {d : DataW Unit} {g t : Nat} {s : Shape}, (name, d) ∈ laid → P.globalNamed name = some g → (P.globals[g]?).map (·.type) = some t → isT P s t = true → s.flat = true → P.cellsOf t = s.size → (∀ (fuel : Nat) (cs : List Value) x, DataW.trod (fun _ => ()) P w 0 (fun _ => true) false fuel t cs = some x → cs.length = P.cellsOf t) → 0 < w.heap.size ∧ ∀ i v, (flatD d)[i]? = some v → Heap.at w.heap g i = some v := by
  induction laid with
  | nil => intro ps _ name d g t s hm; cases hm
  | cons x r ih =>
    intro ps h name d g t s hm hg ht hs hf hc hlen
    obtain ⟨n, d'⟩ := x
    obtain ⟨g', t', cs, fuel, p, q, h1, h2, h3, h4, h5, _⟩ := h
    rcases List.mem_cons.1 hm with e | hm
    · cases e
      obtain rfl := Option.some.inj (hg.symm.trans h1)
      obtain rfl := Option.some.inj (ht.symm.trans h2)
      have e := (ff (fun _ => ()) P w 0 false s).1 t hs hf fuel _ _ ((hlen _ _ _ h4).trans hc) h4
      simp only at e
      rw [← e]
      simp only [World.var?, hg, Option.bind_some] at h3
      split at h3
      · rename_i c t f hw
        cases h3
        refine ⟨?_, fun i v hv => ?_⟩
        · have := (Array.getElem?_eq_some_iff.1 hw).1; omega
        · unfold Heap.at; rw [hw]; simpa using hv
      · cases h3
    · exact ih h5 hm hg ht hs hf hc hlen
theorem laid_cells {laid : List (String × DataW Unit)} {name : String} {d : DataW Unit} {g t : Nat} {s : Shape} (h : laidMetH P laid w) (hp : (laid.all fun x => x.2.handleName?.isNone) = true) (hm : laid.lookup name = some d) (hg : P.globalNamed name = some g) (ht : (P.globals[g]?).map (·.type) = some t) (hs : isT P (.agg s) t = true) (hf : s.flat = true) : 0 < w.heap.size ∧ ∀ i v, (flatD d)[i]? = some v → Heap.at w.heap g i = some v := by
  rw [MakeChecks.laidMetH_plain _ _ _ hp] at h
  obtain ⟨ps, hl, _⟩ := h
  have hc : P.cellsOf t = s.size := by
    unfold isT at hs
    simp only [Bool.and_eq_true, beq_iff_eq] at hs
    exact hs.1
  have hm' : (name, d) ∈ laid := mem_look hm
  refine laid_at hl hm' hg ht hs hf hc (fun fuel cs x hx => ?_)
  unfold isT at hs
  simp only [Bool.and_eq_true] at hs
  have ht2 := hs.2
  split at ht2
  · rename_i fs hu; obtain ⟨_, _, _, _, e, _⟩ := DataW.trod_struct hu hx; exact e
  · rename_i k e hu; obtain ⟨_, _, _, _, e, _⟩ := DataW.trod_array hu hx; exact e
  · cases ht2
end
end Go.HW
