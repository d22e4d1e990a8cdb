/- make, copy, bytes of a string, cells of an array, the call of a function value, more of numbers and strings. -/
import Derived.Test.YtbgipcikkedloaaHwOps6
import Derived.Laws.MakeOwn
set_option linter.unusedVariables false
namespace Go.HW
open Go

def sCallV (P : Program) (x : Value) (as : Array Value) (h : Heap) (K : Value → Heap → Prop) : Prop := ∃ f fs cs, x = .func (.func f) fs cs ∧ Runs P f (fs ++ as ++ cs) h (ret K)
def sMk (h : Heap) (x y : Value) (z : Array Value) (e bytes : Nat) (K : Value → Heap → Prop) : Prop :=
  ∃ k j l c, x = .int k l ∧ y = .int j c ∧ 0 ≤ l ∧ l ≤ c ∧ (bytes : Int) * c ≤ 2 ^ 40 ∧ c ≤ 2 ^ 40 ∧ K (.slice (some ⟨h.size, 0, none⟩) l.toNat c.toNat) (h.push (.cells (Builtin.zeroCells z c.toNat) e))
def sCopy (h : Heap) (x y : Value) (sz : Nat) (K : Value → Heap → Prop) : Prop :=
  ∃ base n c m new, x = .slice base n c ∧ lenV y = some m ∧ rowOf h y sz (min m n) new ∧ new.size = min m n * sz ∧ (∀ u ∈ new.toList, Cell1 u) ∧
    ((base = none ∧ K (.int .i64 (min m n : Nat)) h) ∨ ∃ b o, base = some ⟨b, o, none⟩ ∧ h.fits b o (min m n * sz) ∧ K (.int .i64 (min m n : Nat)) (h.puts b o new.toList))
def sMin3 (x y z : Value) (K : Value → Prop) : Prop := sMin x y fun u => sMin u z K
def sMax3 (x y z : Value) (K : Value → Prop) : Prop := sMax x y fun u => sMax u z K
def sEqlS (x y : Value) (K : Value → Prop) : Prop := ∃ a b, x = .string a ∧ y = .string b ∧ K (.bool (a.toList == b.toList))
def sNeqS (x y : Value) (K : Value → Prop) : Prop := ∃ a b, x = .string a ∧ y = .string b ∧ K (.bool (!(a.toList == b.toList)))
def sAddS (x y : Value) (K : Value → Prop) : Prop := ∃ a b, x = .string a ∧ y = .string b ∧ a.size + b.size ≤ 9223372036854775807 ∧ K (.string (a ++ b))
def sIxVN (x i : Value) (n sz : Nat) (K : Value → Prop) : Prop := ∃ cs k j, x = .agg cs ∧ i = .int k j ∧ 0 ≤ j ∧ j < n ∧ K (.agg (cs.extract (j.toNat * sz) (j.toNat * sz + sz)))
def sInv (k : IntKind) (x : Value) (K : Value → Prop) : Prop := ∃ a, x = .int k a ∧ K (.int k (bitsOf .xor k (if k.signed then -1 else k.max) a))

section
variable {P : Program} {ρ : Operand → Value} {K : Value → Prop}
variable {dst : Option Tmp} {tp : TypeId} {pos : String} {after : Array Edge} {g : Option (Nat × Bool)}
theorem d_callx {h : Heap} {X : Operand} {xs : Array Operand} {ts : Array TypeId} {x : Value} {as : Array Value} {K : Value → Heap → Prop} (hf : ρ X = x) (hx : xs.map ρ = as) (H : sCallV P x as h K) : Does P ρ ⟨dst, .call ⟨.value X, xs, ts⟩, tp, pos, after, g⟩ h K := by
  obtain ⟨f, fs, cs, rfl, H⟩ := H
  exact d_callv hf hx rfl H
theorem p_ixb {X Y : Operand} {x y : Value} {t : TypeId} (ht : P.underlying t = some .string) (hx : ρ X = x) (hy : ρ Y = y) (H : sIxB x y K) : ∃ v, PY P ρ ⟨dst, .index t X Y, tp, pos, after, g⟩ v ∧ K v := by
  obtain ⟨s, k, j, b, rfl, rfl, h0, h1, hk⟩ := H
  refine ⟨_, fun w => ?_, hk⟩
  have hu : ∀ w, (underlying t).run P w = .ok .string w := fun w => by simp [underlying, go_sem, ht]
  simp [execOp, hx, hy, go_sem, Instr.index, asIntOf, hu, h0, h1]
theorem p_ixv {X Y : Operand} {x y : Value} {t e n : Nat} (ht : P.underlying t = some (.array n e)) (hs : ∀ w, (sizeOf e).run P w = .ok 1 w) (ha : ∀ w, (isAgg e).run P w = .ok false w) (hx : ρ X = x) (hy : ρ Y = y) (H : sIxV x y n K) : ∃ v, PY P ρ ⟨dst, .index t X Y, tp, pos, after, g⟩ v ∧ K v := by
  obtain ⟨cs, k, j, v, rfl, rfl, h0, h1, h2, hk⟩ := H
  refine ⟨v, fun w => ?_, hk⟩
  have hu : ∀ w, (underlying t).run P w = .ok (.array n e) w := fun w => by simp [underlying, go_sem, ht]
  simp [execOp, hx, hy, go_sem, Instr.index, asIntOf, hu, h0, h1, hs, part, ha, h2]
theorem p_ixvn {X Y : Operand} {x y : Value} {t e n sz : Nat} (ht : P.underlying t = some (.array n e)) (hs : ∀ w, (sizeOf e).run P w = .ok sz w) (ha : ∀ w, (isAgg e).run P w = .ok true w) (hx : ρ X = x) (hy : ρ Y = y) (H : sIxVN x y n sz K) : ∃ v, PY P ρ ⟨dst, .index t X Y, tp, pos, after, g⟩ v ∧ K v := by
  obtain ⟨cs, k, j, rfl, rfl, h0, h1, hk⟩ := H
  refine ⟨_, fun w => ?_, hk⟩
  have hu : ∀ w, (underlying t).run P w = .ok (.array n e) w := fun w => by simp [underlying, go_sem, ht]
  simp [execOp, hx, hy, go_sem, Instr.index, asIntOf, hu, h0, h1, hs, part, ha]
theorem d_mk {h : Heap} {K : Value → Heap → Prop} {X Y : Operand} {x y zv : Value} {z : Array Value} {t e bytes : Nat} {i : TypeInfo} (ht : P.underlying t = some (.slice e)) (hi : ∀ w, (typeInfo e).run P w = .ok i w) (hs : ∀ w, (sizeOf e).run P w = .ok z.size w) (hz : ∀ w, (zeroValue e).run P w = .ok zv w)
    (hx : ρ X = x) (hy : ρ Y = y) (H : sMk h x y z e bytes K) (hib : i.bytes = bytes := by rfl) (hzz : zv.cells = z := by rfl) : Does P ρ ⟨dst, .makeSlice t X Y, tp, pos, after, g⟩ h K := by
  obtain ⟨k, j, l, c, rfl, rfl, h0, h1, h2, h3, hk⟩ := H
  subst hib
  intro w hw
  have i1 : P.info? e = some i := by
    have := hi w
    cases hh : P.info? e with
    | none => simp [typeInfo, hh] at this
    | some q => simp [typeInfo, hh] at this; rw [this]
  have i2 : i.size = z.size := by
    have := hs w
    simpa [sizeOf, typeInfo, i1] using this
  have i3 : i.zero = some zv := by
    have := hz w
    cases hh : i.zero with
    | none => simp [zeroValue, typeInfo, i1, hh] at this
    | some q => simp [zeroValue, typeInfo, i1, hh] at this; rw [this]
  have e1 : execOp ρ ⟨dst, .makeSlice t X Y, tp, pos, after, g⟩ = Sem.bind (Instr.makeSlice t (ρ X) (ρ Y)) fun v => Sem.pure (Next.value v) := rfl
  refine .inl ⟨.slice (some ⟨w.heap.size, 0, none⟩) l.toNat c.toNat, w.alloc (.cells (madeCells zv.cells (c.toNat * i.size)) e), ?_, ?_, ⟨rfl, rfl, rfl⟩⟩
  · rw [e1, hx, hy, run_bindS, run_make w t e i zv ht i1 i3 k j l c h0 h1 (by omega) (by omega)]
    rfl
  · show K _ (w.heap.push _)
    rw [hw, i2]
    subst hzz
    exact hk
theorem d_copy {h : Heap} {K : Value → Heap → Prop} {X Y : Operand} {x y : Value} {t t2 e sz : Nat} (ht : P.underlying t = some (.slice e)) (hs : ∀ w, (sizeOf e).run P w = .ok sz w) (hx : ρ X = x) (hy : ρ Y = y) (H : sCopy h x y sz K) :
    Does P ρ ⟨dst, .call ⟨.builtin .copy, #[X, Y], #[t, t2]⟩, tp, pos, after, g⟩ h K := by
  obtain ⟨base, n, c, m, new, rfl, hl, hr, hnz, h1, hk⟩ := H
  intro w hw
  have hu : ∀ w, (underlying t).run P w = .ok (.slice e) w := fun w => by simp [underlying, go_sem, ht]
  have e1 : execOp ρ ⟨dst, .call ⟨.builtin .copy, #[X, Y], #[t, t2]⟩, tp, pos, after, g⟩ = Sem.bind (Builtin.copy_ #[t, t2] tp (#[X, Y].map ρ)) fun v => Sem.pure (Next.value v) := rfl
  rw [show #[X, Y].map ρ = #[ρ X, ρ Y] by simp, hx, hy] at e1
  have hlen := run_lenOf (P := P) w hl
  have hfst : (Builtin.firstCells sz (Nat.min m n) y).run P w = .ok new w := run_first (P := P) hw hr
  suffices hh : ∃ v w', (Builtin.copy_ #[t, t2] tp #[.slice base n c, y]).run P w = .ok v w' ∧ K v w'.heap ∧ Kept w w' by
    obtain ⟨v, w', h2, h3, h4⟩ := hh
    refine .inl ⟨v, w', ?_, h3, h4⟩
    rw [e1, run_bindS, h2]
    rfl
  unfold Builtin.copy_
  simp only [List.getElem?_toArray, List.getElem?_cons_zero, List.getElem?_cons_succ, Sem.run_bind, hu, Result.andThen_ok, hlen, hs, hfst]
  rcases hk with ⟨rfl, hk⟩ | ⟨b, o, rfl, hf, hk⟩
  · exact ⟨_, w, rfl, by rw [hw]; exact hk, Kept.refl w⟩
  · obtain ⟨w', r1, r2, r3⟩ := run_storeCells_row (P := P) new.toList 0 (b := b) (o := o) hw h1 (by simpa [hnz] using hf)
    refine ⟨_, w', ?_, by rw [r2]; exact hk, r3⟩
    simp only [Sem.run_bind, r1, Result.andThen_ok]
    rfl
theorem p_inv {X : Operand} {x : Value} {k : IntKind} {t : TypeId} (hx : ρ X = x) (H : sInv k x K) : ∃ v, PY P ρ ⟨dst, .unOp .xor t X, tp, pos, after, g⟩ v ∧ K v := by
  obtain ⟨a, rfl, hk⟩ := H
  refine ⟨_, fun w => ?_, hk⟩
  simp [execOp, hx, go_sem, Op.unary, Op.intBits, bitsOf]
theorem p_min3 {X Y Z : Operand} {x y z : Value} {ts : Array TypeId} (hx : ρ X = x) (hy : ρ Y = y) (hz : ρ Z = z) (H : sMin3 x y z K) : ∃ v, PY P ρ ⟨dst, .call ⟨.builtin .min, #[X, Y, Z], ts⟩, tp, pos, after, g⟩ v ∧ K v := by
  obtain ⟨k, a, b, rfl, rfl, k', c, d, e1, rfl, hk⟩ := H
  cases e1
  exact ⟨_, fun w => by simp [hx, hy, hz, go_sem, Builtin.min_, Builtin.min2], hk⟩
theorem p_max3 {X Y Z : Operand} {x y z : Value} {ts : Array TypeId} (hx : ρ X = x) (hy : ρ Y = y) (hz : ρ Z = z) (H : sMax3 x y z K) : ∃ v, PY P ρ ⟨dst, .call ⟨.builtin .max, #[X, Y, Z], ts⟩, tp, pos, after, g⟩ v ∧ K v := by
  obtain ⟨k, a, b, rfl, rfl, k', c, d, e1, rfl, hk⟩ := H
  cases e1
  exact ⟨_, fun w => by simp [hx, hy, hz, go_sem, Builtin.max_, Builtin.max2], hk⟩
theorem p_sEqlS {X Y : Operand} {x y : Value} {t u : TypeId} (hx : ρ X = x) (hy : ρ Y = y) (H : sEqlS x y K) : ∃ v, PY P ρ ⟨dst, .binOp .eql t X Y u, tp, pos, after, g⟩ v ∧ K v := by
  obtain ⟨a, b, rfl, rfl, hk⟩ := H
  refine ⟨_, fun w => ?_, hk⟩
  simp [execOp, hx, hy, go_sem]
theorem p_sNeqS {X Y : Operand} {x y : Value} {t u : TypeId} (hx : ρ X = x) (hy : ρ Y = y) (H : sNeqS x y K) : ∃ v, PY P ρ ⟨dst, .binOp .neq t X Y u, tp, pos, after, g⟩ v ∧ K v := by
  obtain ⟨a, b, rfl, rfl, hk⟩ := H
  refine ⟨_, fun w => ?_, hk⟩
  simp [execOp, hx, hy, go_sem]
theorem p_sAddS {X Y : Operand} {x y : Value} {t u : TypeId} (hx : ρ X = x) (hy : ρ Y = y) (H : sAddS x y K) : ∃ v, PY P ρ ⟨dst, .binOp .add t X Y u, tp, pos, after, g⟩ v ∧ K v := by
  obtain ⟨a, b, rfl, rfl, hl, hk⟩ := H
  refine ⟨_, fun w => ?_, hk⟩
  simp [execOp, hx, hy, go_sem, hl]
end
end Go.HW
