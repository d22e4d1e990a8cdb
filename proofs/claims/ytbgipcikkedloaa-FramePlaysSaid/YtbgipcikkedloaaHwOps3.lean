/- Guarded groups; rows of cells; new memory; structs. -/
import Derived.Test.YtbgipcikkedloaaHwOps2
set_option linter.unusedVariables false
set_option linter.unusedSimpArgs false
namespace Go.HW
open Go

/-- The first ones; the ones behind. -/
def tk {α : Type} : List Unit → List α → List α
  | _ :: p, x :: l => x :: tk p l
  | _, _ => []
def dp {α : Type} : List Unit → List α → List α
  | [], l => l
  | _ :: p, _ :: l => dp p l
  | _ :: _, [] => []
theorem tk_eq {α : Type} : ∀ (n : List Unit) (l : List α), tk n l = l.take n.length
  | [], l => by simp [tk]
  | _ :: _, [] => by simp [tk]
  | _ :: p, x :: l => by simp [tk, tk_eq p l]
theorem dp_eq {α : Type} : ∀ (n : List Unit) (l : List α), dp n l = l.drop n.length
  | [], l => by simp [dp]
  | _ :: _, [] => by simp [dp]
  | _ :: p, x :: l => by simp [dp, dp_eq p l]

section plain
variable {P : Program} {ops l : List Oper} {Q : Exit → Act → World → Prop} {a : Act} {w w0 : World} {h : Heap}
theorem s_and (n : List Unit) (J : (Value → Prop) → Act → World → Prop) {x : Value} {M : (Value → Prop) → Prop} {K : Value → Prop} (H : sAnd x M K)
    (hm : x = .bool true → M K → wpList P ops.toArray (Exit.then (J K) fun _ _ _ => False) (tk n l) a w) (hs : x = .bool false → K (.bool false) → wpList P ops.toArray (Exit.then (J K) fun _ _ _ => False) (tk n l) a w)
    (hJ : ∀ a w, J K a w → wpList P ops.toArray Q (dp n l) a w) : wpList P ops.toArray Q l a w := by
  obtain ⟨b, hb, h1, h2⟩ := H
  refine s_cut n.length (J K) ?_ (by rw [← dp_eq]; exact hJ)
  rw [← tk_eq]
  cases b
  · exact hs hb (h2 rfl)
  · exact hm hb (h1 rfl)
theorem s_or (n : List Unit) (J : (Value → Prop) → Act → World → Prop) {x : Value} {M : (Value → Prop) → Prop} {K : Value → Prop} (H : sOr x M K)
    (hm : x = .bool false → M K → wpList P ops.toArray (Exit.then (J K) fun _ _ _ => False) (tk n l) a w) (hs : x = .bool true → K (.bool true) → wpList P ops.toArray (Exit.then (J K) fun _ _ _ => False) (tk n l) a w)
    (hJ : ∀ a w, J K a w → wpList P ops.toArray Q (dp n l) a w) : wpList P ops.toArray Q l a w := by
  obtain ⟨b, hb, h1, h2⟩ := H
  refine s_cut n.length (J K) ?_ (by rw [← dp_eq]; exact hJ)
  rw [← tk_eq]
  cases b
  · exact hm hb (h1 rfl)
  · exact hs hb (h2 rfl)
theorem s_andh (n : List Unit) (J : (Value → Heap → Prop) → Act → World → Prop) {x : Value} {M : (Value → Heap → Prop) → Prop} {K : Value → Heap → Prop} (H : sAndH x h M K)
    (hm : x = .bool true → M K → wpList P ops.toArray (Exit.then (J K) fun _ _ _ => False) (tk n l) a w) (hs : x = .bool false → K (.bool false) h → wpList P ops.toArray (Exit.then (J K) fun _ _ _ => False) (tk n l) a w)
    (hJ : ∀ a w, J K a w → wpList P ops.toArray Q (dp n l) a w) : wpList P ops.toArray Q l a w := by
  obtain ⟨b, hb, h1, h2⟩ := H
  refine s_cut n.length (J K) ?_ (by rw [← dp_eq]; exact hJ)
  rw [← tk_eq]
  cases b
  · exact hs hb (h2 rfl)
  · exact hm hb (h1 rfl)
theorem s_orh (n : List Unit) (J : (Value → Heap → Prop) → Act → World → Prop) {x : Value} {M : (Value → Heap → Prop) → Prop} {K : Value → Heap → Prop} (H : sOrH x h M K)
    (hm : x = .bool false → M K → wpList P ops.toArray (Exit.then (J K) fun _ _ _ => False) (tk n l) a w) (hs : x = .bool true → K (.bool true) h → wpList P ops.toArray (Exit.then (J K) fun _ _ _ => False) (tk n l) a w)
    (hJ : ∀ a w, J K a w → wpList P ops.toArray Q (dp n l) a w) : wpList P ops.toArray Q l a w := by
  obtain ⟨b, hb, h1, h2⟩ := H
  refine s_cut n.length (J K) ?_ (by rw [← dp_eq]; exact hJ)
  rw [← tk_eq]
  cases b
  · exact hm hb (h1 rfl)
  · exact hs hb (h2 rfl)
end plain
section quiet
variable {P : Program} {ops l : List Oper} {Q : Act → Prop} {a : Act} {w : World}
theorem q_and (n : List Unit) (J : (Value → Prop) → Act → Prop) {x : Value} {M : (Value → Prop) → Prop} {K : Value → Prop} (H : sAnd x M K)
    (hm : x = .bool true → M K → wpQuiet P ops.toArray (SameHeap w) (J K) (tk n l) a) (hs : x = .bool false → K (.bool false) → wpQuiet P ops.toArray (SameHeap w) (J K) (tk n l) a)
    (hJ : ∀ a, J K a → wpQuiet P ops.toArray (SameHeap w) Q (dp n l) a) : wpQuiet P ops.toArray (SameHeap w) Q l a := by
  obtain ⟨b, hb, h1, h2⟩ := H
  refine q_cut n.length (J K) ?_ (by rw [← dp_eq]; exact hJ)
  rw [← tk_eq]
  cases b
  · exact hs hb (h2 rfl)
  · exact hm hb (h1 rfl)
theorem q_or (n : List Unit) (J : (Value → Prop) → Act → Prop) {x : Value} {M : (Value → Prop) → Prop} {K : Value → Prop} (H : sOr x M K)
    (hm : x = .bool false → M K → wpQuiet P ops.toArray (SameHeap w) (J K) (tk n l) a) (hs : x = .bool true → K (.bool true) → wpQuiet P ops.toArray (SameHeap w) (J K) (tk n l) a)
    (hJ : ∀ a, J K a → wpQuiet P ops.toArray (SameHeap w) Q (dp n l) a) : wpQuiet P ops.toArray (SameHeap w) Q l a := by
  obtain ⟨b, hb, h1, h2⟩ := H
  refine q_cut n.length (J K) ?_ (by rw [← dp_eq]; exact hJ)
  rw [← tk_eq]
  cases b
  · exact hm hb (h1 rfl)
  · exact hs hb (h2 rfl)
end quiet
section mix
variable {P : Program} {ops : Array Oper} {Ch : Heap → Prop} {E need pu : Nat → Bool} {Q : Act → World → Prop} {a : Act} {w w0 : World} {l : List Nat} {h : Heap}
theorem m_and (n : List Unit) (J : (Value → Prop) → Act → World → Prop) {x : Value} {M : (Value → Prop) → Prop} {K : Value → Prop} (H : sAnd x M K)
    (hm : x = .bool true → M K → wpMx P ops (InC w0 Ch) E need pu (J K) (tk n l) a w) (hs : x = .bool false → K (.bool false) → wpMx P ops (InC w0 Ch) E need pu (J K) (tk n l) a w)
    (hJ : ∀ a w, J K a w → wpMx P ops (InC w0 Ch) E need pu Q (dp n l) a w) : wpMx P ops (InC w0 Ch) E need pu Q l a w := by
  obtain ⟨b, hb, h1, h2⟩ := H
  refine m_cut n.length (J K) ?_ (by rw [← dp_eq]; exact hJ)
  rw [← tk_eq]
  cases b
  · exact hs hb (h2 rfl)
  · exact hm hb (h1 rfl)
theorem m_or (n : List Unit) (J : (Value → Prop) → Act → World → Prop) {x : Value} {M : (Value → Prop) → Prop} {K : Value → Prop} (H : sOr x M K)
    (hm : x = .bool false → M K → wpMx P ops (InC w0 Ch) E need pu (J K) (tk n l) a w) (hs : x = .bool true → K (.bool true) → wpMx P ops (InC w0 Ch) E need pu (J K) (tk n l) a w)
    (hJ : ∀ a w, J K a w → wpMx P ops (InC w0 Ch) E need pu Q (dp n l) a w) : wpMx P ops (InC w0 Ch) E need pu Q l a w := by
  obtain ⟨b, hb, h1, h2⟩ := H
  refine m_cut n.length (J K) ?_ (by rw [← dp_eq]; exact hJ)
  rw [← tk_eq]
  cases b
  · exact hm hb (h1 rfl)
  · exact hs hb (h2 rfl)
theorem m_andh (n : List Unit) (J : (Value → Heap → Prop) → Act → World → Prop) {x : Value} {M : (Value → Heap → Prop) → Prop} {K : Value → Heap → Prop} (H : sAndH x h M K)
    (hm : x = .bool true → M K → wpMx P ops (InC w0 Ch) E need pu (J K) (tk n l) a w) (hs : x = .bool false → K (.bool false) h → wpMx P ops (InC w0 Ch) E need pu (J K) (tk n l) a w)
    (hJ : ∀ a w, J K a w → wpMx P ops (InC w0 Ch) E need pu Q (dp n l) a w) : wpMx P ops (InC w0 Ch) E need pu Q l a w := by
  obtain ⟨b, hb, h1, h2⟩ := H
  refine m_cut n.length (J K) ?_ (by rw [← dp_eq]; exact hJ)
  rw [← tk_eq]
  cases b
  · exact hs hb (h2 rfl)
  · exact hm hb (h1 rfl)
theorem m_orh (n : List Unit) (J : (Value → Heap → Prop) → Act → World → Prop) {x : Value} {M : (Value → Heap → Prop) → Prop} {K : Value → Heap → Prop} (H : sOrH x h M K)
    (hm : x = .bool false → M K → wpMx P ops (InC w0 Ch) E need pu (J K) (tk n l) a w) (hs : x = .bool true → K (.bool true) h → wpMx P ops (InC w0 Ch) E need pu (J K) (tk n l) a w)
    (hJ : ∀ a w, J K a w → wpMx P ops (InC w0 Ch) E need pu Q (dp n l) a w) : wpMx P ops (InC w0 Ch) E need pu Q l a w := by
  obtain ⟨b, hb, h1, h2⟩ := H
  refine m_cut n.length (J K) ?_ (by rw [← dp_eq]; exact hJ)
  rw [← tk_eq]
  cases b
  · exact hm hb (h1 rfl)
  · exact hs hb (h2 rfl)
end mix

/-! ### Rows of cells -/
section rows
variable {P : Program} {w : World}
theorem run_loadCellsFrom (b o : Nat) (cs : Array Value) : ∀ (n i : Nat) (acc : Array Value), acc.size = i → (∀ j, j < i → acc[j]? = cs[j]?) → i + n = cs.size → (∀ j, j < cs.size → w.cell? ⟨b, o + j, none⟩ = cs[j]?) →
    (loadCellsFrom ⟨b, o, none⟩ i n acc).run P w = .ok cs w
  | 0, i, acc, hz, hp, hn, _ => by
    have : acc = cs := by
      apply Array.ext
      · omega
      · intro j h1 h2
        have := hp j (by omega)
        simpa [h1, h2] using this
    subst this
    simp [loadCellsFrom, go_sem]
  | n + 1, i, acc, hz, hp, hn, hc => by
    have h0 := hc i (by omega)
    have hi : i < cs.size := by omega
    have hcell : w.cell? ⟨b, o + i, none⟩ = some cs[i] := by rw [h0]; simp [hi]
    have e : Addr.add ⟨b, o, none⟩ i = ⟨b, o + i, none⟩ := by unfold Addr.add; split <;> simp_all
    have ih := run_loadCellsFrom b o cs n (i + 1) (acc.push cs[i]) (by simp [hz]) (fun j hj => by
      rw [Array.getElem?_push]
      split
      · rename_i e; subst e; rw [hz]; simp [hi]
      · exact hp j (by omega)) (by omega) hc
    simp [loadCellsFrom, go_sem, e, hcell, ih]
theorem run_loadCells_row {h : Heap} (hw : w.heap = h) {b o n : Nat} {cs : Array Value} (hr : h.row b o n cs) : (loadCells ⟨b, o, none⟩ n).run P w = .ok cs w :=
  run_loadCellsFrom b o cs n 0 #[] rfl (by intro j hj; omega) (by have := hr.1; omega) fun j hj => by rw [cell_at hw]; exact hr.2 j (by have := hr.1; omega)

/-- Cells written one behind the other. -/
def Heap.puts (h : Heap) (b o : Nat) : List Value → Heap
  | [] => h
  | v :: r => (h.put b o v).puts b (o + 1) r
def Heap.fits (h : Heap) (b o n : Nat) : Prop := ∀ i, i < n → (h.at b (o + i)).isSome = true ∧ h.cold b (o + i) = true

theorem at_put_same (h : Heap) (b o : Nat) (v : Value) (hs : (h.at b o).isSome = true) : (h.put b o v).at b o = some v := by
  unfold Heap.at at *; unfold Heap.put
  rw [Array.getElem?_modify]
  cases hb : h[b]? with
  | none => rw [hb] at hs; cases hs
  | some x =>
    rw [hb] at hs
    cases x with
    | cells c e f =>
      simp only at hs
      have hlt : o < c.size := by
        rcases Nat.lt_or_ge o c.size with x | x
        · exact x
        · simp [Array.getElem?_eq_none x] at hs
      simp [hlt]
    | _ => cases hs
theorem at_put_ne (h : Heap) {b o b' o' : Nat} (v : Value) (hne : b ≠ b' ∨ o ≠ o') : (h.put b o v).at b' o' = h.at b' o' := by
  unfold Heap.at Heap.put
  rw [Array.getElem?_modify]
  by_cases e : b = b'
  · subst e
    have ho : o ≠ o' := by rcases hne with x | x; exact absurd rfl x; exact x
    cases h[b]? with
    | none => simp
    | some x => cases x <;> simp [Array.getElem?_setIfInBounds_ne ho]
  · rw [if_neg e]
theorem cold_put (h : Heap) (b o b' o' : Nat) (v : Value) : (h.put b o v).cold b' o' = h.cold b' o' := by
  unfold Heap.cold Heap.put
  rw [Array.getElem?_modify]
  by_cases e : b = b'
  · subst e
    cases h[b]? with
    | none => simp
    | some x => cases x <;> simp
  · rw [if_neg e]
theorem isSome_put (h : Heap) (b o b' o' : Nat) (v : Value) (hs : (h.at b' o').isSome = true) : ((h.put b o v).at b' o').isSome = true := by
  by_cases e : b = b' ∧ o = o'
  · obtain ⟨rfl, rfl⟩ := e; rw [at_put_same h b o v hs]; rfl
  · rw [at_put_ne h v (by omega)]; exact hs

theorem run_storeCells_row : ∀ (vs : List Value) (i : Nat) {w : World} {h : Heap} {b o : Nat}, w.heap = h → (∀ v ∈ vs, Cell1 v) → h.fits b (o + i) vs.length →
    ∃ w', (storeCells ⟨b, o, none⟩ vs i).run P w = .ok () w' ∧ w'.heap = h.puts b (o + i) vs ∧ Kept w w'
  | [], i, w, h, b, o, hw, _, _ => ⟨w, by simp [storeCells, go_sem], hw, Kept.refl w⟩
  | v :: vs, i, w, h, b, o, hw, h1, hf => by
    have e : Addr.add ⟨b, o, none⟩ i = ⟨b, o + i, none⟩ := by unfold Addr.add; split <;> simp_all
    obtain ⟨h2, h3⟩ := hf 0 (by simp)
    obtain ⟨u, hu⟩ := Option.isSome_iff_exists.1 h2
    have hc : w.cell? ⟨b, o + i, none⟩ = some u := by rw [cell_at hw]; simpa using hu
    have hfz : w.frozen? ⟨b, o + i, none⟩ = false := frozen_cold hw (by simpa using h3)
    have hs := run_store1 (P := P) (h1 v List.mem_cons_self) hc hfz
    have hw2 : (w.setCell ⟨b, o + i, none⟩ v).heap = h.put b (o + i) v := setCell_put hw _ _ _
    obtain ⟨w', r1, r2, r3⟩ := run_storeCells_row vs (i + 1) (b := b) (o := o) hw2 (fun x hx => h1 x (List.mem_cons_of_mem _ hx)) (fun j hj => by
      obtain ⟨x, y⟩ := hf (j + 1) (by simp; omega)
      have ee : o + (i + 1) + j = o + i + (j + 1) := by omega
      rw [ee]
      exact ⟨isSome_put _ _ _ _ _ _ x, by rw [cold_put]; exact y⟩)
    refine ⟨w', ?_, ?_, Kept.trans (b := w.setCell ⟨b, o + i, none⟩ v) ⟨rfl, rfl, rfl⟩ r3⟩
    · rw [← e] at hs
      unfold storeCells
      rw [Sem.run_bind, hs]
      simp only [Result.andThen_ok]
      rw [e]
      exact r1
    · rw [r2]; rfl
end rows

def sStN (h : Heap) (x v : Value) (n : Nat) (K : Heap → Prop) : Prop := ∃ b o cs, x = ptr b o ∧ v = .agg cs ∧ cs.size = n ∧ (∀ u ∈ cs.toList, Cell1 u) ∧ h.fits b o n ∧ K (h.puts b o cs.toList)

section
variable {P : Program} {ρ : Operand → Value} {K : Value → Prop}
variable {dst : Option Tmp} {tp : TypeId} {pos : String} {after : Array Edge} {g : Option (Nat × Bool)}

theorem of_eq {o : Oper} {h : Heap} (H : ∃ v, Yields P ρ o h v ∧ K v) : ∃ v, (∀ h', h' = h → Yields P ρ o h' v) ∧ K v :=
  let ⟨v, hv, hk⟩ := H
  ⟨v, fun _ e => e ▸ hv, hk⟩
theorem c_ld {C : Heap → Prop} {X : Operand} {x : Value} {t : TypeId} (ht : ∀ w, (isAgg t).run P w = .ok false w) (hx : ρ X = x) (H : sLdC C x K) : ∃ v, (∀ h, C h → Yields P ρ ⟨dst, .load t X, tp, pos, after, g⟩ h v) ∧ K v := by
  obtain ⟨b, o, v, rfl, hv, hk⟩ := H
  refine ⟨v, fun h hC w hw => .inl ?_, hk⟩
  have hc : w.cell? ⟨b, o, none⟩ = some v := by rw [cell_at hw]; exact hv h hC
  simp [execOp, hx, go_sem, Instr.loadAt, Instr.sureAddr, loadVar, ht, hc]
theorem y_ldn {h : Heap} {X : Operand} {x : Value} {t n : Nat} (ht : ∀ w, (isAgg t).run P w = .ok true w) (hs : ∀ w, (sizeOf t).run P w = .ok n w) (hx : ρ X = x) (H : sLdN h x n K) : ∃ v, Yields P ρ ⟨dst, .load t X, tp, pos, after, g⟩ h v ∧ K v := by
  obtain ⟨b, o, cs, rfl, hr, hk⟩ := H
  refine ⟨_, fun w hw => .inl ?_, hk⟩
  have hl := run_loadCells_row (P := P) hw hr
  unfold loadCells at hl
  simp [execOp, hx, go_sem, Instr.loadAt, Instr.sureAddr, loadVar, ht, hs, hl]
theorem c_ldn {C : Heap → Prop} {X : Operand} {x : Value} {t n : Nat} (ht : ∀ w, (isAgg t).run P w = .ok true w) (hs : ∀ w, (sizeOf t).run P w = .ok n w) (hx : ρ X = x) (H : sLdNC C x n K) : ∃ v, (∀ h, C h → Yields P ρ ⟨dst, .load t X, tp, pos, after, g⟩ h v) ∧ K v := by
  obtain ⟨b, o, cs, rfl, hr, hk⟩ := H
  refine ⟨_, fun h hC w hw => .inl ?_, hk⟩
  have hl := run_loadCells_row (P := P) hw (hr h hC)
  unfold loadCells at hl
  simp [execOp, hx, go_sem, Instr.loadAt, Instr.sureAddr, loadVar, ht, hs, hl]
theorem d_stn {h : Heap} {K : Heap → Prop} {X Y : Operand} {x y : Value} {t n : Nat} (ht : ∀ w, (sizeOf t).run P w = .ok n w) (hx : ρ X = x) (hy : ρ Y = y) (H : sStN h x y n K) :
    Does P ρ ⟨dst, .store t X Y, tp, pos, after, g⟩ h fun _ h' => K h' := by
  obtain ⟨b, o, cs, rfl, rfl, hn, h1, hf, hk⟩ := H
  intro w hw
  obtain ⟨w', r1, r2, r3⟩ := run_storeCells_row (P := P) cs.toList 0 (b := b) (o := o) hw h1 (by simpa [hn] using hf)
  refine .inr (.inl ⟨w', ?_, by rw [r2]; exact hk, r3⟩)
  simp [execOp, hx, hy, go_sem, Instr.storeAt, Instr.sureAddr, storeVar, ht, hn, r1]
theorem run_bindS {α β : Type} (s : Sem α) (f : α → Sem β) (w : World) : (Sem.bind s f).run P w = (s.run P w).andThen fun a w' => (f a).run P w' := Sem.run_bind P w s f
theorem run_newRow (w : World) (e : TypeId) (cs : Array Value) : (newRow e cs).run P w = .ok ⟨w.heap.size, 0, none⟩ { w with heap := w.heap.push (.cells cs e) } := rfl
theorem d_alloc {h : Heap} {K : Value → Heap → Prop} {t : TypeId} {z : Value} {zc : Array Value} (hz : ∀ w, (zeroValue t).run P w = .ok z w) (H : sNew h zc t K) (hc : zc = z.cells := by rfl) :
    Does P ρ ⟨dst, .alloc t, tp, pos, after, g⟩ h K := by
  subst hc
  intro w hw
  refine .inl ⟨ptr h.size 0, { w with heap := w.heap.push (.cells z.cells t) }, ?_, ?_, ⟨rfl, rfl, rfl⟩⟩
  · subst hw
    show Sem.run P (Sem.bind (Sem.bind (zeroValue t) fun zero => Sem.bind (newVar t zero) fun a => Sem.pure (.pointer (some a))) fun v => Sem.pure (Next.value v)) w = _
    rw [run_bindS, run_bindS, hz]
    rfl
  · show K _ (w.heap.push _)
    rw [hw]; exact H
theorem d_box {h : Heap} {K : Value → Heap → Prop} {X : Operand} {x : Value} {t : TypeId} (hx : ρ X = x) (H : sBox h x t K) : Does P ρ ⟨dst, .box t X, tp, pos, after, g⟩ h K := by
  intro w hw
  refine .inl ⟨ptr h.size 0, { w with heap := w.heap.push (.cells x.cells t) }, ?_, ?_, ⟨rfl, rfl, rfl⟩⟩
  · subst hw
    show Sem.run P (Sem.bind (Sem.bind (newVar t (ρ X)) fun a => Sem.pure (Value.pointer (some a))) fun v => Sem.pure (Next.value v)) w = _
    rw [hx]; rfl
  · show K _ (w.heap.push _)
    rw [hw]; exact H

theorem foldl_putRow (cs : Array Value) (o : Nat) (vs : List Value) (k : Nat) : (vs.zipIdx k).foldl (fun cs (c, j) => cs.setIfInBounds (o + j) c) cs = putRow cs (o + k) vs := by
  induction vs generalizing cs k with
  | nil => rfl
  | cons v vs ih => simp only [List.zipIdx_cons, List.foldl_cons, putRow]; rw [ih]; rfl
theorem fill_of (place : Nat → Option (Nat × Nat)) : ∀ (l : List (Nat × Value)) (ps : List (Nat × Nat × Value)) (cs : Array Value) (K : Array Value → Prop),
    l.map (fun x => (place x.1, x.2)) = ps.map (fun p => (some (p.1, p.2.1), p.2.2)) → sFill cs ps K → ∃ cs', Instr.fill place cs l = some cs' ∧ K cs'
  | [], [], cs, K, _, h => ⟨cs, rfl, h⟩
  | [], _ :: _, _, _, e, _ => by cases e
  | _ :: _, [], _, _, e, _ => by cases e
  | (i, v) :: l, (o, n, u) :: ps, cs, K, e, h => by
    simp only [List.map_cons, List.cons.injEq, Prod.mk.injEq] at e
    obtain ⟨⟨e1, rfl⟩, e2⟩ := e
    obtain ⟨h1, h2, h3⟩ := h
    have := fill_of place l ps _ K e2 h3
    simp only [Instr.fill, e1]
    rw [if_neg (by simp [h1]; omega)]
    rw [← Array.foldl_toList, Array.toList_zipIdx, foldl_putRow]
    exact this
theorem p_build {t : TypeId} {fs : Array Field} {parts : Array (Nat × Operand)} {z : Value} {zc : Array Value} {ps : List (Nat × Nat × Value)} {pl : Array (Nat × Nat)} (hz : ∀ w, (zeroValue t).run P w = .ok z w) (hu : P.underlying t = some (.struct fs))
    (hpl : ∀ w, (fs.mapM (m := Sem) fun f => do pure (f.offset, ← sizeOf f.type)).run P w = .ok pl w) (hp : (parts.toList.map fun x => (pl[x.1]?, ρ x.2)) = ps.map fun p => (some (p.1, p.2.1), p.2.2)) (H : sBuild zc ps K) (hc : zc = z.cells := by rfl) :
    ∃ v, PY P ρ ⟨dst, .build t parts, tp, pos, after, g⟩ v ∧ K v := by
  subst hc
  obtain ⟨cs, hf, hk⟩ := fill_of (fun i => pl[i]?) ((parts.map fun (i, x) => (i, ρ x)).toList) ps z.cells _ (by rw [← hp]; simp) H
  refine ⟨_, fun w => ?_, hk⟩
  have e : execOp ρ ⟨dst, .build t parts, tp, pos, after, g⟩ = Sem.bind (Instr.build t (parts.map fun (i, x) => (i, ρ x))) fun v => Sem.pure (Next.value v) := rfl
  rw [e]
  have hu' : ∀ w, (underlying t).run P w = .ok (.struct fs) w := fun w => by simp [underlying, go_sem, hu]
  have : (Instr.build t (parts.map fun (i, x) => (i, ρ x))).run P w = .ok (.agg cs) w := by
    unfold Instr.build
    simp only [Sem.run_bind, hz, Result.andThen_ok, hu', hpl, Sem.run_pure]
    rw [hf]
    rfl
  rw [run_bindS, this]
  rfl
theorem p_fld {X : Operand} {x : Value} {s n fi : Nat} {fs : Array Field} {f : Field} (hs : P.underlying s = some (.struct fs)) (hf : fs[fi]? = some f) (ha : ∀ w, (isAgg f.type).run P w = .ok false w) (hn : f.offset = n) (hx : ρ X = x) (H : sFld x n K) : ∃ v, PY P ρ ⟨dst, .field s X fi, tp, pos, after, g⟩ v ∧ K v := by
  obtain ⟨cs, v, rfl, hv, hk⟩ := H
  have hu : ∀ w, (underlying s).run P w = .ok (.struct fs) w := fun w => by simp [underlying, go_sem, hs]
  exact ⟨_, fun w => by simp [execOp, hx, go_sem, Instr.field, hu, hf, asAgg, part, ha, hn, hv], hk⟩
theorem p_fldn {X : Operand} {x : Value} {s n m fi : Nat} {fs : Array Field} {f : Field} (hs : P.underlying s = some (.struct fs)) (hf : fs[fi]? = some f) (ha : ∀ w, (isAgg f.type).run P w = .ok true w) (hm : ∀ w, (sizeOf f.type).run P w = .ok m w) (hn : f.offset = n) (hx : ρ X = x) (H : sFldN x n m K) : ∃ v, PY P ρ ⟨dst, .field s X fi, tp, pos, after, g⟩ v ∧ K v := by
  obtain ⟨cs, rfl, hk⟩ := H
  have hu : ∀ w, (underlying s).run P w = .ok (.struct fs) w := fun w => by simp [underlying, go_sem, hs]
  exact ⟨_, fun w => by simp [execOp, hx, go_sem, Instr.field, hu, hf, asAgg, part, ha, hn, hm], hk⟩
end
end Go.HW
