/- Arguments of any shape: numbers, bools, slices, structs and arrays, one in another. -/
import Derived.Test.YtbgipcikkedloaaHwCat
import Derived.OpenShut
import Derived.WideShapes
namespace Go.HW
open Go

inductive Shape where
  | int (k : IntKind)
  | bool
  | slice (s : Shape)
  | agg (r : Shape)
  | nil
  | cons (s r : Shape)

def Shape.size : Shape → Nat
  | .int _ | .bool | .slice _ => 1
  | .agg r => r.size
  | .nil => 0
  | .cons s r => s.size + r.size

/-- What cells of a shape bear. -/
def Rep : Shape → Heap → List Value → Prop
  | .int k, _, cs => ∃ n, cs = [.int k n] ∧ (Lit.int k n).wf = true
  | .bool, _, cs => ∃ b, cs = [.bool b]
  | .slice s, h, cs => ∃ (v : Value) (rows : List {r : List Value // r.length = s.size}), cs = [v] ∧ Seq Subtype.val s.size h v rows ∧ rows.length ≤ maxLen ∧ ∀ r ∈ rows, Rep s h r.1
  | .agg r, h, cs => Rep r h cs
  | .nil, _, cs => cs = []
  | .cons s r, h, cs => ∃ a b, cs = a ++ b ∧ Rep s h a ∧ Rep r h b

mutual
def isT (P : Program) : Shape → TypeId → Bool
  | .int k, t => match P.underlying t with
    | some (.int k') => k == k'
    | _ => false
  | .bool, t => match P.underlying t with
    | some .bool => true
    | _ => false
  | .slice s, t => match P.underlying t with
    | some (.slice e) => P.cellsOf e == s.size && decide (0 < s.size) && isT P s e
    | _ => false
  | .agg r, t => P.cellsOf t == r.size && match P.underlying t with
    | some (.struct fs) => isR P r (fs.toList.map fun f => (f.offset, f.type)) 0
    | some (.array n e) => isR P r ((List.range n).map fun i => (i * P.cellsOf e, e)) 0
    | _ => false
  | _, _ => false
def isR (P : Program) : Shape → List (Nat × TypeId) → Nat → Bool
  | .nil, [], _ => true
  | .cons s r, (o, t) :: l, off => o == off && P.cellsOf t == s.size && isT P s t && isR P r l (off + s.size)
  | _, _, _ => false
end

section
variable {H : Type} {en : TypeId × Value → H} {P : Program} {w : World} {base : Nat} {held : Bool}
theorem rep_size : ∀ {s : Shape} {h : Heap} {cs : List Value}, Rep s h cs → cs.length = s.size
  | .int _, _, _, ⟨_, e, _⟩ => by rw [e]; rfl
  | .bool, _, _, ⟨_, e⟩ => by rw [e]; rfl
  | .slice _, _, _, ⟨_, _, e, _⟩ => by rw [e]; rfl
  | .agg r, _, _, x => rep_size (s := r) x
  | .nil, _, _, x => by rw [show _ = [] from x]; rfl
  | .cons s r, _, _, ⟨a, b, e, x, y⟩ => by rw [e, List.length_append, rep_size x, rep_size y]; rfl

def TT (en : TypeId × Value → H) (P : Program) (w : World) (base : Nat) (held : Bool) (s : Shape) : Prop :=
  (∀ t, isT P s t = true → ∀ (n : Nat) (cs : List Value) (x : DataW H × List MemPlace), cs.length = s.size → DataW.trod en P w base (fun _ => true) held n t cs = some x → Rep s w.heap cs) ∧
  (∀ l off (cs : List Value), isR P s l off = true → cs.length = off + s.size → (∀ p ∈ l, ∃ n x, DataW.trod en P w base (fun _ => true) held n p.2 ((cs.drop p.1).take (P.cellsOf p.2)) = some x) → Rep s w.heap (cs.drop off))

theorem tt (en : TypeId × Value → H) (P : Program) (w : World) (base : Nat) (held : Bool) : ∀ s : Shape, TT en P w base held s
  | .int k => by
    refine ⟨fun t ht n cs x _ h => ?_, fun l off cs h _ _ => by unfold isR at h; cases h⟩
    unfold isT at ht
    split at ht
    · rename_i k' hu
      obtain rfl : k = k' := by simpa using ht
      obtain ⟨m, e, _, hw⟩ := DataW.trod_int hu h
      exact ⟨m, e, hw⟩
    · cases ht
  | .bool => by
    refine ⟨fun t ht n cs x _ h => ?_, fun l off cs h _ _ => by unfold isR at h; cases h⟩
    unfold isT at ht
    split at ht
    · rename_i hu
      obtain ⟨m, e, _⟩ := DataW.trod_bool hu h
      exact ⟨m, e⟩
    · cases ht
  | .slice s => by
    refine ⟨fun t ht n cs x _ h => ?_, fun l off cs h _ _ => by unfold isR at h; cases h⟩
    unfold isT at ht
    split at ht
    · rename_i e hu
      simp only [Bool.and_eq_true, beq_iff_eq, decide_eq_true_eq] at ht
      obtain ⟨⟨hc, hp⟩, hs⟩ := ht
      have ih := (tt en P w base held s).1 e hs
      have : Inhabited {r : List Value // r.length = s.size} := ⟨⟨List.replicate s.size undef, by simp⟩⟩
      have key : ∀ a len cap, cs = [.slice a len cap] → Rep (.slice s) w.heap cs := fun a len cap e0 => by
        subst e0
        obtain ⟨l, hq, hl, hg⟩ := open_seq (α := {r : List Value // r.length = s.size}) (enc := Subtype.val) (good := fun r => Rep s w.heap r.1) hu hc hp (fun x => x.2) (fun m cs x hlen hx => ⟨⟨cs, hlen⟩, rfl, ih m cs x hlen hx⟩) (a := a) (len := len) (cap := cap) (by simpa [Value.cells] using h)
        exact ⟨_, l, rfl, hq, hl, hg⟩
      rcases Deep.open_slice hu h with ⟨e0, _⟩ | ⟨a, len, cap, _, _, _, _, e0, _⟩
      · exact key _ _ _ e0
      · exact key _ _ _ e0
    · cases ht
  | .agg r => by
    refine ⟨fun t ht n cs x hl h => ?_, fun l off cs h _ _ => by unfold isR at h; cases h⟩
    unfold isT at ht
    simp only [Bool.and_eq_true, beq_iff_eq] at ht
    obtain ⟨hc, ht⟩ := ht
    have ih := (tt en P w base held r).2
    split at ht
    · rename_i fs hu
      obtain ⟨xs, m, _, _, _, hlen, hf⟩ := DataW.trod_struct hu h
      have := ih _ 0 cs ht (by rw [hl]; simp [Shape.size]) (fun p hp => by
        obtain ⟨f, hf1, rfl⟩ := List.mem_map.1 hp
        obtain ⟨i, hi, rfl⟩ := List.getElem_of_mem hf1
        have hi' : i < fs.size := by simpa using hi
        have := hf i fs[i] (by simp [hi'])
        refine ⟨m, xs[i]'(by omega), ?_⟩
        simp only [Array.getElem_toList]
        rw [this]; simp [hlen, hi'])
      simpa [Rep] using this
    · rename_i k e hu
      obtain ⟨xs, m, _, _, _, hlen, hf⟩ := DataW.trod_array hu h
      have := ih _ 0 cs ht (by rw [hl]; simp [Shape.size]) (fun p hp => by
        obtain ⟨i, hi, rfl⟩ := List.mem_map.1 hp
        have hi' : i < k := List.mem_range.1 hi
        refine ⟨m, xs[i]'(by omega), ?_⟩
        simp only
        rw [hf i hi']; simp [hlen, hi'])
      simpa [Rep] using this
    · cases ht
  | .nil => by
    refine ⟨fun t ht => (by unfold isT at ht; cases ht), fun l off cs h hl _ => ?_⟩
    have : cs.drop off = [] := List.drop_eq_nil_of_le (by simp [Shape.size] at hl; omega)
    exact this
  | .cons s r => by
    refine ⟨fun t ht => (by unfold isT at ht; cases ht), fun l off cs h hl hp => ?_⟩
    cases l with
    | nil => unfold isR at h; cases h
    | cons p l =>
      obtain ⟨o, t⟩ := p
      unfold isR at h
      simp only [Bool.and_eq_true, beq_iff_eq] at h
      obtain ⟨⟨⟨rfl, hc⟩, hs⟩, hr⟩ := h
      obtain ⟨n, x, hx⟩ := hp (o, t) List.mem_cons_self
      simp only [Shape.size] at hl
      rw [hc] at hx
      have h1 := (tt en P w base held s).1 t hs n _ x (by rw [List.length_take, List.length_drop]; omega) hx
      have h2 := (tt en P w base held r).2 l (o + s.size) cs hr (by omega) (fun p hp' => hp p (List.mem_cons_of_mem _ hp'))
      refine ⟨(cs.drop o).take s.size, cs.drop (o + s.size), ?_, h1, h2⟩
      rw [← List.drop_drop, List.take_append_drop]

/-- An argument that is no struct. -/
theorem rep_cell {s : Shape} {t : TypeId} {v : Value} {d : DataW H} {p : List MemPlace} (ht : isT P s t = true) (hc : v.cells.toList.length = s.size) (h : DataW.Trod en P w base (fun _ => true) held t v d p) : Rep s w.heap v.cells.toList := by
  obtain ⟨n, h⟩ := h
  exact (tt en P w base held s).1 t ht n _ _ hc h
theorem rep_slice {s : Shape} {t : TypeId} {r : Reach} {b0 : Nat} {v : Value} {d : DataW H} {p : List MemPlace} (ht : isT P (.slice s) t = true) (hv : Value.okWide P w r b0 t v) (h : DataW.Trod en P w base (fun _ => true) held t v d p) : Rep (.slice s) w.heap [v] := by
  have hu : ∃ e, P.underlying t = some (.slice e) := by
    unfold isT at ht
    split at ht
    · rename_i e hu; exact ⟨e, hu⟩
    · cases ht
  obtain ⟨e, hu⟩ := hu
  obtain ⟨a, len, cap, rfl⟩ := WideShapes.okWide_slice hu hv
  have := rep_cell ht (by simp [Value.cells, Shape.size]) h
  simpa [Value.cells] using this
theorem rep_agg {s : Shape} {t : TypeId} {r : Reach} {b0 : Nat} {v : Value} {d : DataW H} {p : List MemPlace} (ht : isT P (.agg s) t = true) (hv : Value.okWide P w r b0 t v) (h : DataW.Trod en P w base (fun _ => true) held t v d p) : ∃ cs : List Value, v = .agg cs.toArray ∧ Rep (.agg s) w.heap cs := by
  have hu : (∃ fs, P.underlying t = some (.struct fs)) ∨ ∃ n e, P.underlying t = some (.array n e) := by
    unfold isT at ht
    simp only [Bool.and_eq_true] at ht
    have ht := ht.2
    split at ht
    · rename_i fs hu; exact .inl ⟨fs, hu⟩
    · rename_i n e hu; exact .inr ⟨n, e, hu⟩
    · cases ht
  have hc : P.cellsOf t = s.size := by
    unfold isT at ht
    simp only [Bool.and_eq_true, beq_iff_eq] at ht
    exact ht.1
  have : ∃ cs : Array Value, v = .agg cs ∧ cs.size = P.cellsOf t := by
    rcases hu with ⟨fs, hu⟩ | ⟨n, e, hu⟩
    · exact WideShapes.okWide_struct hu hv
    · simp only [Value.okWide, hu] at hv
      obtain ⟨cs, h1, h2, _⟩ := hv
      exact ⟨cs, h1, h2⟩
  obtain ⟨cs, rfl, hsz⟩ := this
  have := rep_cell ht (by simp [Value.cells, Shape.size]; omega) h
  exact ⟨cs.toList, by simp, by simpa [Value.cells] using this⟩

/-- The elements of a slice, by a type of one's own. -/
theorem Rep.rows {α : Type} {enc : α → List Value} {good : α → Prop} {s : Shape} {h : Heap} {v : Value} (x : Rep (.slice s) h [v]) (he : ∀ r : List Value, r.length = s.size → Rep s h r → ∃ y : α, r = enc y ∧ good y) :
    ∃ l : List α, Seq enc s.size h v l ∧ l.length ≤ maxLen ∧ ∀ y ∈ l, good y := by
  obtain ⟨v', rows, e, hq, hl, hr⟩ := x
  cases e
  have : ∀ rows : List {r : List Value // r.length = s.size}, (∀ r ∈ rows, Rep s h r.1) → ∃ l : List α, rows.map Subtype.val = l.map enc ∧ ∀ y ∈ l, good y := by
    intro rows
    induction rows with
    | nil => exact fun _ => ⟨[], rfl, by simp⟩
    | cons r rows ih =>
      intro hr
      obtain ⟨y, e, hy⟩ := he r.1 r.2 (hr r List.mem_cons_self)
      obtain ⟨l, e2, hl⟩ := ih fun r hr' => hr r (List.mem_cons_of_mem _ hr')
      refine ⟨y :: l, by rw [List.map_cons, List.map_cons, e, e2], fun z hz => ?_⟩
      rcases List.mem_cons.1 hz with rfl | hz
      · exact hy
      · exact hl z hz
  obtain ⟨l, e, hg⟩ := this rows hr
  have hlen : l.length = rows.length := by have := congrArg List.length e; simpa using this.symm
  refine ⟨l, ?_, by omega, hg⟩
  obtain ⟨a, n, m, rfl, hn, hm, hd⟩ := hq
  refine ⟨a, n, m, rfl, by omega, hm, ?_⟩
  rcases hd with hd | ⟨b, o, rfl, hb, hc⟩
  · exact .inl hd
  · refine .inr ⟨b, o, rfl, hb, fun j x hj => ?_⟩
    have hj' := (List.getElem?_eq_some_iff.1 hj).1
    have : (rows.map Subtype.val)[j]? = (l.map enc)[j]? := by rw [e]
    rw [List.getElem?_map, List.getElem?_map, hj, List.getElem?_eq_getElem (by omega)] at this
    simp only [Option.map_some, Option.some.injEq] at this
    have := hc j (rows[j]'(by omega)) (List.getElem?_eq_getElem (by omega))
    simp_all
theorem Rep.ints {k : IntKind} {h : Heap} {v : Value} (x : Rep (.slice (.int k)) h [v]) : ∃ l : List Int, Ints k h v l ∧ l.length ≤ maxLen ∧ ∀ n ∈ l, (Lit.int k n).wf = true :=
  x.rows fun r _ ⟨n, e, hw⟩ => ⟨n, e, hw⟩
end
end Go.HW
