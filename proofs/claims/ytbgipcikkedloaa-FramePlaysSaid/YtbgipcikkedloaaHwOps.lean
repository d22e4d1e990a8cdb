/- The words of the shallow reading, and why each of them is what the operation does. -/
import Derived.Test.YtbgipcikkedloaaHwMix
namespace Go.HW
open Go

abbrev ptr (b o : Nat) : Value := .pointer (some ⟨b, o, none⟩)
abbrev unit : Value := .tuple #[]

def Heap.at (h : Heap) (b o : Nat) : Option Value := match h[b]? with
  | some (.cells c _ _) => c[o]?
  | _ => none
def Heap.cold (h : Heap) (b o : Nat) : Bool := match h[b]? with
  | some (.cells _ _ (lo, hi)) => !(lo ≤ o && o < hi)
  | _ => false
def Heap.put (h : Heap) (b o : Nat) (v : Value) : Heap := h.modify b fun
  | .cells c e f => .cells (c.setIfInBounds o v) e f
  | x => x

theorem cell_at {w : World} {h : Heap} (hw : w.heap = h) (b o : Nat) : w.cell? ⟨b, o, none⟩ = h.at b o := by
  subst hw
  unfold World.cell? Heap.at
  cases w.heap[b]? with
  | none => rfl
  | some x => cases x <;> simp
theorem setCell_put {w : World} {h : Heap} (hw : w.heap = h) (b o : Nat) (v : Value) : (w.setCell ⟨b, o, none⟩ v).heap = h.put b o v := by
  subst hw
  unfold World.setCell Heap.put
  simp only [Option.isSome_none, Bool.false_eq_true, if_false]
  rfl
theorem frozen_cold {w : World} {h : Heap} (hw : w.heap = h) {b o : Nat} (hc : h.cold b o = true) : w.frozen? ⟨b, o, none⟩ = false := by
  subst hw
  unfold World.frozen? 
  unfold Heap.cold at hc
  revert hc
  cases w.heap[b]? with
  | none => intro hc; cases hc
  | some x => cases x <;> simp; omega

/-- Whatever the heap. -/
def PY (P : Program) (ρ : Operand → Value) (o : Oper) (v : Value) : Prop := ∀ w : World, (execOp ρ o).run P w = .ok (.value v) w
theorem PY.yields {P : Program} {ρ : Operand → Value} {o : Oper} {v : Value} (h : PY P ρ o v) (hp : Heap) : Yields P ρ o hp v := fun w _ => .inl (h w)

/-- A value of one cell. -/
def Cell1 : Value → Prop
  | .agg _ | .tuple _ => False
  | _ => True

theorem run_store1 {P : Program} {w : World} {a : Addr} {u v : Value} (h1 : Cell1 v) (hc : w.cell? a = some u) (hf : w.frozen? a = false) : (store a v).run P w = .ok () (w.setCell a v) := by
  cases v <;> first | exact h1.elim | simp [store, Sem.run, hc, hf]

/-! ### The words -/
def sNil (x : Value) (K : Value → Prop) : Prop := (∃ b o, x = ptr b o) ∧ K x
def sOff (x : Value) (n : Nat) (K : Value → Prop) : Prop := ∃ b o, x = ptr b o ∧ K (ptr b (o + n))
def sLd (h : Heap) (x : Value) (K : Value → Prop) : Prop := ∃ b o v, x = ptr b o ∧ h.at b o = some v ∧ K v
def sSt (h : Heap) (x v : Value) (K : Heap → Prop) : Prop := ∃ b o, x = ptr b o ∧ (h.at b o).isSome = true ∧ h.cold b o = true ∧ Cell1 v ∧ K (h.put b o v)
def sCmp (f : Int → Int → Bool) (x y : Value) (K : Value → Prop) : Prop := ∃ k a b, x = .int k a ∧ y = .int k b ∧ K (.bool (f a b))
def sAr (f : Int → Int → Int) (k : IntKind) (x y : Value) (K : Value → Prop) : Prop := ∃ a b, x = .int k a ∧ y = .int k b ∧ K (.int k (k.wrap (f a b)))
def sNot (x : Value) (K : Value → Prop) : Prop := ∃ b, x = .bool b ∧ K (.bool !b)
def sPick (c x y : Value) (K : Value → Prop) : Prop := ∃ b, c = .bool b ∧ K (if b then x else y)
def sIf (c : Value) (A B : Prop) : Prop := ∃ b, c = .bool b ∧ (b = true → A) ∧ (b = false → B)

section
variable {P : Program} {ρ : Operand → Value} {K : Value → Prop}
variable {dst : Option Tmp} {tp : TypeId} {pos : String} {after : Array Edge} {g : Option (Nat × Bool)}

theorem p_move {X : Operand} {x : Value} (hx : ρ X = x) (H : K x) : ∃ v, PY P ρ ⟨dst, .move X, tp, pos, after, g⟩ v ∧ K v :=
  ⟨x, fun w => by simp [execOp, hx, go_sem], H⟩
theorem p_assign {X : Operand} {x : Value} (hx : ρ X = x) (H : K x) : ∃ v, PY P ρ ⟨dst, .assign X, tp, pos, after, g⟩ v ∧ K v :=
  ⟨x, fun w => by simp [execOp, hx, go_sem], H⟩
theorem p_pick {c X Y : Operand} {t x y : Value} (hc : ρ c = t) (hx : ρ X = x) (hy : ρ Y = y) (H : sPick t x y K) : ∃ v, PY P ρ ⟨dst, .pick c X Y, tp, pos, after, g⟩ v ∧ K v := by
  obtain ⟨b, rfl, hk⟩ := H
  exact ⟨_, fun w => by simp [execOp, hc, hx, hy, go_sem, asBool], hk⟩
theorem p_nil {X : Operand} {x : Value} (hx : ρ X = x) (H : sNil x K) : ∃ v, PY P ρ ⟨dst, .nilCheck X, tp, pos, after, g⟩ v ∧ K v := by
  obtain ⟨⟨b, o, rfl⟩, hk⟩ := H
  exact ⟨_, fun w => by simp [execOp, hx, go_sem], hk⟩
theorem p_not {X : Operand} {x : Value} {t : TypeId} (hx : ρ X = x) (H : sNot x K) : ∃ v, PY P ρ ⟨dst, .unOp .not t X, tp, pos, after, g⟩ v ∧ K v := by
  obtain ⟨b, rfl, hk⟩ := H
  exact ⟨_, fun w => by simp [execOp, hx, go_sem, Op.unary], hk⟩
theorem p_off {X : Operand} {x : Value} {s n fi : Nat} {fs : Array Field} {f : Field} (hs : P.underlying s = some (.struct fs)) (hf : fs[fi]? = some f) (hz : ∀ w, ∃ m, (sizeOf f.type).run P w = .ok (m + 1) w) (hn : f.offset = n)
    (hx : ρ X = x) (H : sOff x n K) : ∃ v, PY P ρ ⟨dst, .fieldAddr s X fi, tp, pos, after, g⟩ v ∧ K v := by
  obtain ⟨b, o, rfl, hk⟩ := H
  refine ⟨_, fun w => ?_, hk⟩
  obtain ⟨m, hm⟩ := hz w
  have hu : ∀ w, (underlying s).run P w = .ok (.struct fs) w := fun w => by simp [underlying, go_sem, hs]
  simp [execOp, hx, go_sem, Instr.fieldAt, hu, hf, Instr.sureAddr, fieldPlace, hm, hn, Addr.add]
theorem p_cmp {op : BinOp} {f : Int → Int → Bool} {X Y : Operand} {x y : Value} {t u : TypeId} (hop : (op = .lss ∧ f = fun a b => decide (a < b)) ∨ (op = .leq ∧ f = fun a b => decide (a ≤ b)) ∨ (op = .gtr ∧ f = fun a b => decide (a > b)) ∨ (op = .geq ∧ f = fun a b => decide (a ≥ b)) ∨ (op = .eql ∧ f = fun a b => a == b) ∨ (op = .neq ∧ f = fun a b => a != b))
    (hx : ρ X = x) (hy : ρ Y = y) (H : sCmp f x y K) : ∃ v, PY P ρ ⟨dst, .binOp op t X Y u, tp, pos, after, g⟩ v ∧ K v := by
  obtain ⟨k, a, b, rfl, rfl, hk⟩ := H
  refine ⟨_, fun w => ?_, hk⟩
  rcases hop with ⟨rfl, rfl⟩ | ⟨rfl, rfl⟩ | ⟨rfl, rfl⟩ | ⟨rfl, rfl⟩ | ⟨rfl, rfl⟩ | ⟨rfl, rfl⟩ <;> simp [execOp, hx, hy, go_sem, eqGuard, binOp, Op.intCmp]
theorem p_ar {op : BinOp} {f : Int → Int → Int} {k : IntKind} {X Y : Operand} {x y : Value} {t u : TypeId} (hop : (op = .add ∧ f = fun a b => a + b) ∨ (op = .sub ∧ f = fun a b => a - b) ∨ (op = .mul ∧ f = fun a b => a * b))
    (hx : ρ X = x) (hy : ρ Y = y) (H : sAr f k x y K) : ∃ v, PY P ρ ⟨dst, .binOp op t X Y u, tp, pos, after, g⟩ v ∧ K v := by
  obtain ⟨a, b, rfl, rfl, hk⟩ := H
  refine ⟨_, fun w => ?_, hk⟩
  rcases hop with ⟨rfl, rfl⟩ | ⟨rfl, rfl⟩ | ⟨rfl, rfl⟩ <;> simp [execOp, hx, hy, go_sem, eqGuard, binOp, Op.intArith]
theorem y_ld {h : Heap} {X : Operand} {x : Value} {t : TypeId} (ht : ∀ w, (isAgg t).run P w = .ok false w) (hx : ρ X = x) (H : sLd h x K) : ∃ v, Yields P ρ ⟨dst, .load t X, tp, pos, after, g⟩ h v ∧ K v := by
  obtain ⟨b, o, v, rfl, hv, hk⟩ := H
  refine ⟨v, fun w hw => .inl ?_, hk⟩
  have hc : w.cell? ⟨b, o, none⟩ = some v := by rw [cell_at hw]; exact hv
  simp [execOp, hx, go_sem, Instr.loadAt, Instr.sureAddr, loadVar, ht, hc]
theorem d_st {h : Heap} {K : Heap → Prop} {X Y : Operand} {x y : Value} {t : TypeId} (ht : ∀ w, (sizeOf t).run P w = .ok 1 w) (hx : ρ X = x) (hy : ρ Y = y) (H : sSt h x y K) :
    Does P ρ ⟨dst, .store t X Y, tp, pos, after, g⟩ h fun _ h' => K h' := by
  obtain ⟨b, o, rfl, hat, hcold, hone, hk⟩ := H
  intro w hw
  refine .inr (.inl ⟨w.setCell ⟨b, o, none⟩ y, ?_, by rw [setCell_put hw]; exact hk, ⟨rfl, rfl, rfl⟩⟩)
  obtain ⟨v, hv⟩ := Option.isSome_iff_exists.1 hat
  have hc : w.cell? ⟨b, o, none⟩ = some v := by rw [cell_at hw]; exact hv
  have hf := frozen_cold hw hcold
  have h1 := run_store1 (P := P) hone hc hf
  cases y <;> first | exact hone.elim | simp [execOp, hx, hy, go_sem, Instr.storeAt, Instr.sureAddr, storeVar, ht, storeCells, Addr.add, hc, hf, h1]
end
end Go.HW
