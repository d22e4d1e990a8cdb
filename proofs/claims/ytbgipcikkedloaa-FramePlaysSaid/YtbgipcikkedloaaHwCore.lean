/- The core of a shallow reading of Go functions: heaps without the rest of the world, what an operation yields, regions that draw their order with effects in a fixed order, calls. -/
import Derived.WalkKit
import Derived.Deep.Quiet
import Derived.Deep.Draws
namespace Go.HW
open Go

abbrev Heap := Array Obj

/-- What the rest of the world keeps. -/
structure Kept (w w' : World) : Prop where
  tape : w'.tape = w.tape
  os : w'.os = w.os
  output : w'.output = w.output

theorem Kept.refl (w : World) : Kept w w := ⟨rfl, rfl, rfl⟩
theorem Kept.trans {a b c : World} (x : Kept a b) (y : Kept b c) : Kept a c := ⟨y.1.trans x.1, y.2.trans x.2, y.3.trans x.3⟩

/-- Operation o, in whatever world with heap h, yields v and changes nothing. -/
def Yields (P : Program) (ρ : Operand → Value) (o : Oper) (h : Heap) (v : Value) : Prop :=
  ∀ w : World, w.heap = h → (execOp ρ o).run P w = .ok (.value v) w ∨ ((execOp ρ o).run P w = .ok .skip w ∧ v = undef)

/-- A call: it comes back, and the rest of the world is kept. -/
def Runs (P : Program) (f : FuncId) (args : Array Value) (h : Heap) (R : Ending → Heap → Prop) : Prop :=
  (∀ (as : Array Value) (w : World), (callFunc f as).run P w = .ok (.enter f as) w) ∧
  ∀ w : World, w.heap = h → Calls P f args w fun e w' => R e w'.heap ∧ Kept w w'

def ret (K : Value → Heap → Prop) : Ending → Heap → Prop
  | .returned v, h => K v h
  | _, _ => False

theorem Runs.mono {P : Program} {f : FuncId} {args : Array Value} {h : Heap} {R R' : Ending → Heap → Prop} (hr : Runs P f args h R) (hm : ∀ e h, R e h → R' e h) : Runs P f args h R' :=
  ⟨hr.1, fun w hw => (hr.2 w hw).mono fun _ _ x => ⟨hm _ _ x.1, x.2⟩⟩

theorem ret_mono {K K' : Value → Heap → Prop} (hm : ∀ v h, K v h → K' v h) : ∀ e h, ret K e h → ret K' e h
  | .returned v, h, x => hm v h x
  | .panicked _, _, x => x.elim
  | .outgrown, _, x => x.elim

/-- Operation o, in whatever world with heap h, does R: a value and a heap; by an operation or by a call. -/
def Does (P : Program) (ρ : Operand → Value) (o : Oper) (h : Heap) (R : Value → Heap → Prop) : Prop :=
  ∀ w : World, w.heap = h →
    (∃ v w', (execOp ρ o).run P w = .ok (.value v) w' ∧ R v w'.heap ∧ Kept w w') ∨
    (∃ w', (execOp ρ o).run P w = .ok .skip w' ∧ R undef w'.heap ∧ Kept w w') ∨
    (∃ f args w1, (execOp ρ o).run P w = .ok (.enter f args) w1 ∧ Kept w w1 ∧ Runs P f args w1.heap (ret R))

theorem Does.of_yields {P : Program} {ρ : Operand → Value} {o : Oper} {h : Heap} {v : Value} {R : Value → Heap → Prop} (hy : Yields P ρ o h v) (hr : R v h) : Does P ρ o h R := by
  intro w hw
  rcases hy w hw with h1 | ⟨h1, rfl⟩
  · exact .inl ⟨v, w, h1, hw ▸ hr, Kept.refl w⟩
  · exact .inr (.inl ⟨w, h1, hw ▸ hr, Kept.refl w⟩)

/-! ### Regions in the order of the text -/

section
variable {P : Program} {ops : Array Oper} {Q : Exit → Act → World → Prop} {a : Act} {w : World} {rest : List Oper} {o : Oper} {h : Heap}

theorem st_yield {K : Value → Prop} (hg : Region.wanted o (yielded ops a.tmps) = true) (hw : w.heap = h) (hy : ∃ v, Yields P a.eval o h v ∧ K v)
    (next : ∀ v, K v → wpList P ops Q rest (a.put o.dst v) w) : wpList P ops Q (o :: rest) a w := by
  obtain ⟨v, hy, hk⟩ := hy
  unfold wpList
  rw [if_pos hg]
  refine .inl ?_
  unfold Oper.wp
  rcases hy w hw with h1 | ⟨h1, rfl⟩
  · rw [h1]; exact next v hk
  · rw [h1]; exact next _ hk

theorem st_skip (hg : Region.wanted o (yielded ops a.tmps) = false) (next : wpList P ops Q rest (a.put o.dst undef) w) : wpList P ops Q (o :: rest) a w := by
  unfold wpList
  rw [if_neg (by rw [hg]; decide)]
  exact next

theorem wp_of_does {K : Act → World → Prop} {R : Value → Heap → Prop} (hw : w.heap = h) (hd : Does P a.eval o h R)
    (next : ∀ v w', R v w'.heap → Kept w w' → K (a.put o.dst v) w') : o.wp P a w K Q := by
  unfold Oper.wp
  rcases hd w hw with ⟨v, w', h1, h2, h3⟩ | ⟨w', h1, h2, h3⟩ | ⟨f, args, w1, h1, hk, _, h2⟩
  · rw [h1]; exact next v w' h2 h3
  · rw [h1]; exact next _ w' h2 h3
  · rw [h1]
    refine (h2 w1 rfl).mono fun e w' ⟨h3, h4⟩ => ?_
    cases e with
    | returned v => exact next v w' h3 (hk.trans h4)
    | panicked ch => exact h3.elim
    | outgrown => exact h3.elim

theorem st_does {R : Value → Heap → Prop} (hg : Region.wanted o (yielded ops a.tmps) = true) (hw : w.heap = h) (hd : Does P a.eval o h R)
    (next : ∀ v h' w', R v h' → w'.heap = h' → Kept w w' → wpList P ops Q rest (a.put o.dst v) w') : wpList P ops Q (o :: rest) a w := by
  unfold wpList
  rw [if_pos hg]
  exact .inl (wp_of_does hw hd fun v w' hr hk => next v _ w' hr rfl hk)

end

/-! ### Regions that draw their order and change nothing -/

def SameHeap (w : World) (w' : World) : Prop := w'.heap = w.heap ∧ Kept w w'

section
variable {P : Program} {ops : Array Oper} {a : Act} {w : World} {rest : List Oper} {o : Oper} {h : Heap} {Q : Act → Prop}

theorem sq_yield {K : Value → Prop} (hg : Region.wanted o (yielded ops a.tmps) = true) (hw : w.heap = h) (hy : ∃ v, Yields P a.eval o h v ∧ K v)
    (next : ∀ v, K v → wpQuiet P ops (SameHeap w) Q rest (a.put o.dst v)) : wpQuiet P ops (SameHeap w) Q (o :: rest) a := by
  obtain ⟨v, hy, hk⟩ := hy
  unfold wpQuiet
  rw [if_pos hg]
  refine ⟨v, fun w' hw' => ?_, next v hk⟩
  unfold Oper.quietAt
  rcases hy w' (hw'.1.trans hw) with h1 | ⟨h1, rfl⟩
  · rw [h1]; exact ⟨rfl, rfl⟩
  · rw [h1]; exact ⟨rfl, rfl⟩

theorem sq_skip (hg : Region.wanted o (yielded ops a.tmps) = false) (next : wpQuiet P ops (SameHeap w) Q rest (a.put o.dst undef)) : wpQuiet P ops (SameHeap w) Q (o :: rest) a := by
  unfold wpQuiet
  rw [if_neg (by rw [hg]; decide)]
  exact next
end

theorem wp_quiet {P : Program} {id : Nat} {l : List Oper} {Q : Exit → Act → World → Prop} {a : Act} {w : World} (hm : P.follows .mixedOrders = true) (hB : Region.lexB .any l.toArray = true)
    (h : wpQuiet P l.toArray (SameHeap w) (fun a' => ∀ w', w'.heap = w.heap → Kept w w' → Q .normal a' w') l a) : (Code.region id l.toArray true).wp P Q a w :=
  wp_region_quiet (C := SameHeap w) hm hB ⟨rfl, rfl, rfl, rfl⟩ (by
    have : (fun a' => ∀ w', SameHeap w w' → Q .normal a' w') = (fun a' => ∀ w', w'.heap = w.heap → Kept w w' → Q .normal a' w') := by
      funext a'; exact propext ⟨fun h w' x y => h w' ⟨x, y⟩, fun h w' x => h w' x.1 x.2⟩
    rw [this]; simpa using h)

/-! ### Functions -/

theorem runs_of_wp {P : Program} {f : FuncId} {fn : Func} {c : Code} {args : Array Value} {h : Heap} {R : Ending → Heap → Prop}
    (hc : ∀ (as : Array Value) (w : World), (callFunc f as).run P w = .ok (.enter f as) w) (hf : P.funcs[f]? = some fn) (hb : fn.body = some c)
    (hh : ∀ w : World, w.heap = h → c.wp P (bodyPost P fn fun e w' => R e w'.heap ∧ Kept w w') { tmps := args ++ Array.replicate (fn.ntmps - args.size) undef, defers := [] } w) :
    Runs P f args h R :=
  ⟨hc, fun w hw => calls_of_wp hf hb (hh w hw)⟩

end Go.HW
