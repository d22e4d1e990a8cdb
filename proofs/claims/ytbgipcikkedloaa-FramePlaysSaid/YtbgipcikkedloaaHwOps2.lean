/- More words of the shallow reading: numbers, structs, slices, calls; guarded groups. -/
import Derived.Test.YtbgipcikkedloaaHwStep
import Derived.WalkSpells
import Derived.Lib.SliceRun
namespace Go.HW
open Go

def sLt (x y : Value) (K : Value → Prop) : Prop := sCmp (fun a b => decide (a < b)) x y K
def sLe (x y : Value) (K : Value → Prop) : Prop := sCmp (fun a b => decide (a ≤ b)) x y K
def sGt (x y : Value) (K : Value → Prop) : Prop := sCmp (fun a b => decide (b < a)) x y K
def sGe (x y : Value) (K : Value → Prop) : Prop := sCmp (fun a b => decide (b ≤ a)) x y K
def sEq (x y : Value) (K : Value → Prop) : Prop := sCmp (fun a b => a == b) x y K
def sNe (x y : Value) (K : Value → Prop) : Prop := sCmp (fun a b => a != b) x y K
def sAdd (k : IntKind) (x y : Value) (K : Value → Prop) : Prop := sAr (fun a b => a + b) k x y K
def sSub (k : IntKind) (x y : Value) (K : Value → Prop) : Prop := sAr (fun a b => a - b) k x y K
def sMul (k : IntKind) (x y : Value) (K : Value → Prop) : Prop := sAr (fun a b => a * b) k x y K
def sQuo (k : IntKind) (x y : Value) (K : Value → Prop) : Prop := ∃ a b, x = .int k a ∧ y = .int k b ∧ b ≠ 0 ∧ K (.int k (k.wrap (a.tdiv b)))
def sRem (k : IntKind) (x y : Value) (K : Value → Prop) : Prop := ∃ a b, x = .int k a ∧ y = .int k b ∧ b ≠ 0 ∧ K (.int k (a.tmod b))
/-- What & | ^ &^ make of two numbers of a kind. -/
def bitsOf (op : BinOp) (k : IntKind) (a b : Int) : Int :=
  match op with
  | .and => k.wrap (BitVec.ofInt k.bits a &&& BitVec.ofInt k.bits b).toNat
  | .or => k.wrap (BitVec.ofInt k.bits a ||| BitVec.ofInt k.bits b).toNat
  | .xor => k.wrap (BitVec.ofInt k.bits a ^^^ BitVec.ofInt k.bits b).toNat
  | _ => k.wrap (BitVec.ofInt k.bits a &&& ~~~(BitVec.ofInt k.bits b)).toNat
def isBits : BinOp → Bool
  | .and | .or | .xor | .andNot => true
  | _ => false
def sBits (op : BinOp) (k : IntKind) (x y : Value) (K : Value → Prop) : Prop := ∃ a b, x = .int k a ∧ y = .int k b ∧ K (.int k (bitsOf op k a b))
def sShl (k : IntKind) (x y : Value) (K : Value → Prop) : Prop := ∃ a j b, x = .int k a ∧ y = .int j b ∧ 0 ≤ b ∧ K (.int k (k.wrap (a * 2 ^ (min b.toNat k.bits))))
def sShr (k : IntKind) (x y : Value) (K : Value → Prop) : Prop := ∃ a j b, x = .int k a ∧ y = .int j b ∧ 0 ≤ b ∧ K (.int k (a.fdiv (2 ^ (min b.toNat k.bits))))
def sConv (k : IntKind) (x : Value) (K : Value → Prop) : Prop := ∃ j a, x = .int j a ∧ K (.int k (k.wrap a))
def sNeg (k : IntKind) (x : Value) (K : Value → Prop) : Prop := ∃ a, x = .int k a ∧ K (.int k (k.wrap (0 - a)))
def sMin (x y : Value) (K : Value → Prop) : Prop := ∃ k a b, x = .int k a ∧ y = .int k b ∧ K (.int k (if b < a then b else a))
def sMax (x y : Value) (K : Value → Prop) : Prop := ∃ k a b, x = .int k a ∧ y = .int k b ∧ K (.int k (if a < b then b else a))
def sEqlB (x y : Value) (K : Value → Prop) : Prop := ∃ a b, x = .bool a ∧ y = .bool b ∧ K (.bool (a == b))
def sNeqB (x y : Value) (K : Value → Prop) : Prop := ∃ a b, x = .bool a ∧ y = .bool b ∧ K (.bool (!(a == b)))
def sEqlNil (x : Value) (K : Value → Prop) : Prop := ∃ a, x = .pointer a ∧ K (.bool a.isNone)
def sNeqNil (x : Value) (K : Value → Prop) : Prop := ∃ a, x = .pointer a ∧ K (.bool (!a.isNone))
def sEqlNilS (x : Value) (K : Value → Prop) : Prop := ∃ a n c, x = .slice a n c ∧ K (.bool a.isNone)
def sNeqNilS (x : Value) (K : Value → Prop) : Prop := ∃ a n c, x = .slice a n c ∧ K (.bool (!a.isNone))
def sLen (x : Value) (K : Value → Prop) : Prop := ∃ a n c, x = .slice a n c ∧ K (.int .i64 n)
def sLenB (x : Value) (K : Value → Prop) : Prop := ∃ s, x = .string s ∧ K (.int .i64 s.size)
def sTup (x : Value) (i : Nat) (K : Value → Prop) : Prop := ∃ vs v, x = .tuple vs ∧ vs[i]? = some v ∧ K v
def sIxS (x i : Value) (sz : Nat) (K : Value → Prop) : Prop := ∃ b o n c k j, x = .slice (some ⟨b, o, none⟩) n c ∧ i = .int k j ∧ 0 ≤ j ∧ j < n ∧ K (ptr b (o + j.toNat * sz))
def sIxA (x i : Value) (n sz : Nat) (K : Value → Prop) : Prop := ∃ b o k j, x = ptr b o ∧ i = .int k j ∧ 0 ≤ j ∧ j < n ∧ K (ptr b (o + j.toNat * sz))
def sIxB (x i : Value) (K : Value → Prop) : Prop := ∃ s k j b, x = .string s ∧ i = .int k j ∧ 0 ≤ j ∧ s[j.toNat]? = some b ∧ K (.int .u8 b.toNat)
def sIxV (x i : Value) (n : Nat) (K : Value → Prop) : Prop := ∃ cs k j v, x = .agg cs ∧ i = .int k j ∧ 0 ≤ j ∧ j < n ∧ cs[j.toNat]? = some v ∧ K v
def sFld (x : Value) (n : Nat) (K : Value → Prop) : Prop := ∃ cs v, x = .agg cs ∧ cs[n]? = some v ∧ K v
def sFldN (x : Value) (n m : Nat) (K : Value → Prop) : Prop := ∃ cs, x = .agg cs ∧ K (.agg (cs.extract n (n + m)))
/-- A row of cells in the heap. -/
def Heap.row (h : Heap) (b o n : Nat) (cs : Array Value) : Prop := cs.size = n ∧ ∀ i, i < n → h.at b (o + i) = cs[i]?
def sLdN (h : Heap) (x : Value) (n : Nat) (K : Value → Prop) : Prop := ∃ b o cs, x = ptr b o ∧ h.row b o n cs ∧ K (.agg cs)
def sLdC (C : Heap → Prop) (x : Value) (K : Value → Prop) : Prop := ∃ b o v, x = ptr b o ∧ (∀ h, C h → h.at b o = some v) ∧ K v
def sLdNC (C : Heap → Prop) (x : Value) (n : Nat) (K : Value → Prop) : Prop := ∃ b o cs, x = ptr b o ∧ (∀ h : Heap, C h → h.row b o n cs) ∧ K (.agg cs)
def sNew (h : Heap) (z : Array Value) (t : TypeId) (K : Value → Heap → Prop) : Prop := K (ptr h.size 0) (h.push (.cells z t))
def sBox (h : Heap) (x : Value) (t : TypeId) (K : Value → Heap → Prop) : Prop := K (ptr h.size 0) (h.push (.cells x.cells t))
def sAnd (x : Value) (M : (Value → Prop) → Prop) (K : Value → Prop) : Prop := ∃ b, x = .bool b ∧ (b = true → M K) ∧ (b = false → K (.bool false))
def sOr (x : Value) (M : (Value → Prop) → Prop) (K : Value → Prop) : Prop := ∃ b, x = .bool b ∧ (b = false → M K) ∧ (b = true → K (.bool true))
def sAndH (x : Value) (h : Heap) (M : (Value → Heap → Prop) → Prop) (K : Value → Heap → Prop) : Prop := ∃ b, x = .bool b ∧ (b = true → M K) ∧ (b = false → K (.bool false) h)
def sOrH (x : Value) (h : Heap) (M : (Value → Heap → Prop) → Prop) (K : Value → Heap → Prop) : Prop := ∃ b, x = .bool b ∧ (b = false → M K) ∧ (b = true → K (.bool true) h)

/-- Parts laid into cells: offset, size, value. -/
def putRow (cs : Array Value) (o : Nat) : List Value → Array Value
  | [] => cs
  | v :: r => putRow (cs.setIfInBounds o v) (o + 1) r
def sFill : Array Value → List (Nat × Nat × Value) → (Array Value → Prop) → Prop
  | cs, [], K => K cs
  | cs, (o, n, v) :: r, K => v.cells.size = n ∧ o + n ≤ cs.size ∧ sFill (putRow cs o v.cells.toList) r K
def sBuild (z : Array Value) (ps : List (Nat × Nat × Value)) (K : Value → Prop) : Prop := sFill z ps fun cs => K (.agg cs)
def sSlit (h : Heap) (z : Array Value) (ps : List (Nat × Nat × Value)) (t n : Nat) (K : Value → Heap → Prop) : Prop :=
  sFill z ps fun cs => K (.slice (some ⟨h.size, 0, none⟩) n n) (h.push (.cells cs t))

section
variable {P : Program} {ρ : Operand → Value} {K : Value → Prop}
variable {dst : Option Tmp} {tp : TypeId} {pos : String} {after : Array Edge} {g : Option (Nat × Bool)}

theorem p_sLt {X Y : Operand} {x y : Value} {t u : TypeId} (hx : ρ X = x) (hy : ρ Y = y) (H : sLt x y K) : ∃ v, PY P ρ ⟨dst, .binOp .lss t X Y u, tp, pos, after, g⟩ v ∧ K v := p_cmp (.inl ⟨rfl, rfl⟩) hx hy H
theorem p_sLe {X Y : Operand} {x y : Value} {t u : TypeId} (hx : ρ X = x) (hy : ρ Y = y) (H : sLe x y K) : ∃ v, PY P ρ ⟨dst, .binOp .leq t X Y u, tp, pos, after, g⟩ v ∧ K v := p_cmp (.inr (.inl ⟨rfl, rfl⟩)) hx hy H
theorem p_sGt {X Y : Operand} {x y : Value} {t u : TypeId} (hx : ρ X = x) (hy : ρ Y = y) (H : sGt x y K) : ∃ v, PY P ρ ⟨dst, .binOp .gtr t X Y u, tp, pos, after, g⟩ v ∧ K v := p_cmp (.inr (.inr (.inl ⟨rfl, rfl⟩))) hx hy H
theorem p_sGe {X Y : Operand} {x y : Value} {t u : TypeId} (hx : ρ X = x) (hy : ρ Y = y) (H : sGe x y K) : ∃ v, PY P ρ ⟨dst, .binOp .geq t X Y u, tp, pos, after, g⟩ v ∧ K v := p_cmp (.inr (.inr (.inr (.inl ⟨rfl, rfl⟩)))) hx hy H
theorem p_sEq {X Y : Operand} {x y : Value} {t u : TypeId} (hx : ρ X = x) (hy : ρ Y = y) (H : sEq x y K) : ∃ v, PY P ρ ⟨dst, .binOp .eql t X Y u, tp, pos, after, g⟩ v ∧ K v := p_cmp (.inr (.inr (.inr (.inr (.inl ⟨rfl, rfl⟩))))) hx hy H
theorem p_sNe {X Y : Operand} {x y : Value} {t u : TypeId} (hx : ρ X = x) (hy : ρ Y = y) (H : sNe x y K) : ∃ v, PY P ρ ⟨dst, .binOp .neq t X Y u, tp, pos, after, g⟩ v ∧ K v := p_cmp (.inr (.inr (.inr (.inr (.inr ⟨rfl, rfl⟩))))) hx hy H
theorem p_add {k : IntKind} {X Y : Operand} {x y : Value} {t u : TypeId} (hx : ρ X = x) (hy : ρ Y = y) (H : sAdd k x y K) : ∃ v, PY P ρ ⟨dst, .binOp .add t X Y u, tp, pos, after, g⟩ v ∧ K v := p_ar (.inl ⟨rfl, rfl⟩) hx hy H
theorem p_sub {k : IntKind} {X Y : Operand} {x y : Value} {t u : TypeId} (hx : ρ X = x) (hy : ρ Y = y) (H : sSub k x y K) : ∃ v, PY P ρ ⟨dst, .binOp .sub t X Y u, tp, pos, after, g⟩ v ∧ K v := p_ar (.inr (.inl ⟨rfl, rfl⟩)) hx hy H
theorem p_mul {k : IntKind} {X Y : Operand} {x y : Value} {t u : TypeId} (hx : ρ X = x) (hy : ρ Y = y) (H : sMul k x y K) : ∃ v, PY P ρ ⟨dst, .binOp .mul t X Y u, tp, pos, after, g⟩ v ∧ K v := p_ar (.inr (.inr ⟨rfl, rfl⟩)) hx hy H
theorem p_quo {k : IntKind} {X Y : Operand} {x y : Value} {t u : TypeId} (hx : ρ X = x) (hy : ρ Y = y) (H : sQuo k x y K) : ∃ v, PY P ρ ⟨dst, .binOp .quo t X Y u, tp, pos, after, g⟩ v ∧ K v := by
  obtain ⟨a, b, rfl, rfl, h0, hk⟩ := H
  exact ⟨_, fun w => by simp [execOp, hx, hy, go_sem, eqGuard, binOp, Op.intDiv, h0], hk⟩
theorem p_rem {k : IntKind} {X Y : Operand} {x y : Value} {t u : TypeId} (hx : ρ X = x) (hy : ρ Y = y) (H : sRem k x y K) : ∃ v, PY P ρ ⟨dst, .binOp .rem t X Y u, tp, pos, after, g⟩ v ∧ K v := by
  obtain ⟨a, b, rfl, rfl, h0, hk⟩ := H
  exact ⟨_, fun w => by simp [execOp, hx, hy, go_sem, eqGuard, binOp, Op.intDiv, h0], hk⟩
theorem p_bits {op : BinOp} {k : IntKind} {X Y : Operand} {x y : Value} {t u : TypeId} (hop : isBits op = true) (hx : ρ X = x) (hy : ρ Y = y) (H : sBits op k x y K) : ∃ v, PY P ρ ⟨dst, .binOp op t X Y u, tp, pos, after, g⟩ v ∧ K v := by
  obtain ⟨a, b, rfl, rfl, hk⟩ := H
  refine ⟨_, fun w => ?_, hk⟩
  have hb : binOp op t (.int k a) (.int k b) = Sem.pure (.int k (bitsOf op k a b)) := by
    cases op <;> first | exact absurd hop (by decide) | (simp only [binOp, ne_eq, not_true_eq_false, if_false]; rfl)
  have hg : eqGuard op t X Y (.int k a) (.int k b) = Sem.pure () := by
    cases op <;> first | exact absurd hop (by decide) | rfl
  show Sem.run P (Sem.bind (Sem.bind (eqGuard op t X Y (ρ X) (ρ Y)) fun _ => binOp op t (ρ X) (ρ Y)) fun v => Sem.pure (Next.value v)) w = _
  rw [hx, hy, hb, hg]
  rfl
theorem p_shl {k : IntKind} {X Y : Operand} {x y : Value} {t u : TypeId} (hx : ρ X = x) (hy : ρ Y = y) (H : sShl k x y K) : ∃ v, PY P ρ ⟨dst, .binOp .shl t X Y u, tp, pos, after, g⟩ v ∧ K v := by
  obtain ⟨a, j, b, rfl, rfl, h0, hk⟩ := H
  have : ¬ b < 0 := by omega
  exact ⟨_, fun w => by simp [execOp, hx, hy, go_sem, eqGuard, binOp, Op.shift, this], hk⟩
theorem p_shr {k : IntKind} {X Y : Operand} {x y : Value} {t u : TypeId} (hx : ρ X = x) (hy : ρ Y = y) (H : sShr k x y K) : ∃ v, PY P ρ ⟨dst, .binOp .shr t X Y u, tp, pos, after, g⟩ v ∧ K v := by
  obtain ⟨a, j, b, rfl, rfl, h0, hk⟩ := H
  have : ¬ b < 0 := by omega
  exact ⟨_, fun w => by simp [execOp, hx, hy, go_sem, eqGuard, binOp, Op.shift, this], hk⟩
theorem p_conv {k j : IntKind} {X : Operand} {x : Value} {t u : TypeId} (ht : P.underlying t = some (.int j)) (hu : P.underlying u = some (.int k)) (hx : ρ X = x) (H : sConv k x K) : ∃ v, PY P ρ ⟨dst, .convert t u X, tp, pos, after, g⟩ v ∧ K v := by
  obtain ⟨j, a, rfl, hk⟩ := H
  exact ⟨_, fun w => by simp [execOp, hx, go_sem, convert, underlying, ht, hu, Conv.intToInt], hk⟩
theorem p_neg {k : IntKind} {X : Operand} {x : Value} {t : TypeId} (hx : ρ X = x) (H : sNeg k x K) : ∃ v, PY P ρ ⟨dst, .unOp .neg t X, tp, pos, after, g⟩ v ∧ K v := by
  obtain ⟨a, rfl, hk⟩ := H
  exact ⟨_, fun w => by simp [execOp, hx, go_sem, Op.unary, Op.intArith], hk⟩
theorem p_min {X Y : Operand} {x y : Value} {ts : Array TypeId} (hx : ρ X = x) (hy : ρ Y = y) (H : sMin x y K) : ∃ v, PY P ρ ⟨dst, .call ⟨.builtin .min, #[X, Y], ts⟩, tp, pos, after, g⟩ v ∧ K v := by
  obtain ⟨k, a, b, rfl, rfl, hk⟩ := H
  exact ⟨_, fun w => by simp [hx, hy, go_sem, Builtin.min_, Builtin.min2], hk⟩
theorem p_max {X Y : Operand} {x y : Value} {ts : Array TypeId} (hx : ρ X = x) (hy : ρ Y = y) (H : sMax x y K) : ∃ v, PY P ρ ⟨dst, .call ⟨.builtin .max, #[X, Y], ts⟩, tp, pos, after, g⟩ v ∧ K v := by
  obtain ⟨k, a, b, rfl, rfl, hk⟩ := H
  exact ⟨_, fun w => by simp [hx, hy, go_sem, Builtin.max_, Builtin.max2], hk⟩
theorem p_len {X : Operand} {x : Value} {t e : TypeId} (ht : P.underlying t = some (.slice e)) (hx : ρ X = x) (H : sLen x K) : ∃ v, PY P ρ ⟨dst, .call ⟨.builtin .len, #[X], #[t]⟩, tp, pos, after, g⟩ v ∧ K v := by
  obtain ⟨a, n, c, rfl, hk⟩ := H
  exact ⟨_, fun w => by simp [hx, go_sem, Builtin.len_, underlying, ht, goInt], hk⟩
theorem p_lenb {X : Operand} {x : Value} {t : TypeId} (ht : P.underlying t = some .string) (hx : ρ X = x) (H : sLenB x K) : ∃ v, PY P ρ ⟨dst, .call ⟨.builtin .len, #[X], #[t]⟩, tp, pos, after, g⟩ v ∧ K v := by
  obtain ⟨s, rfl, hk⟩ := H
  exact ⟨_, fun w => by simp [hx, go_sem, Builtin.len_, underlying, ht, goInt], hk⟩
theorem p_tup {X : Operand} {x : Value} {i : Nat} (hx : ρ X = x) (H : sTup x i K) : ∃ v, PY P ρ ⟨dst, .extract X i, tp, pos, after, g⟩ v ∧ K v := by
  obtain ⟨vs, v, rfl, hv, hk⟩ := H
  exact ⟨_, fun w => by simp [execOp, hx, go_sem, Instr.extract, hv], hk⟩
theorem p_eqlB {X Y : Operand} {x y : Value} {t u : TypeId} (ht : P.underlying t = some .bool) (hx : ρ X = x) (hy : ρ Y = y) (H : sEqlB x y K) : ∃ v, PY P ρ ⟨dst, .binOp .eql t X Y u, tp, pos, after, g⟩ v ∧ K v := by
  obtain ⟨a, b, rfl, rfl, hk⟩ := H
  exact ⟨_, fun w => by simp [execOp, hx, hy, go_sem, eqGuard, run_eql_bool w t a b ht], hk⟩
theorem p_neqB {X Y : Operand} {x y : Value} {t u : TypeId} (ht : P.underlying t = some .bool) (hx : ρ X = x) (hy : ρ Y = y) (H : sNeqB x y K) : ∃ v, PY P ρ ⟨dst, .binOp .neq t X Y u, tp, pos, after, g⟩ v ∧ K v := by
  obtain ⟨a, b, rfl, rfl, hk⟩ := H
  exact ⟨_, fun w => by simp [execOp, hx, hy, go_sem, eqGuard, run_neq_bool w t a b ht], hk⟩
theorem p_eqlNil {X : Operand} {x y : Value} {t u e : TypeId} (ht : P.underlying t = some (.pointer e)) (hx : ρ X = x) (hy : ρ (.const (.pointer none)) = y) (H : sEqlNil x K) (hc : y = (.pointer none) := by rfl) : ∃ v, PY P ρ ⟨dst, .binOp .eql t X (.const (.pointer none)) u, tp, pos, after, g⟩ v ∧ K v := by
  obtain ⟨a, rfl, hk⟩ := H
  subst hc
  refine ⟨_, fun w => ?_, hk⟩
  have hb := run_eql_pointer_nil (P := P) w t a (by simp [Program.pointee, ht])
  cases a <;> simp [execOp, hx, hy, go_sem, eqGuard, hb]
theorem p_neqNil {X : Operand} {x y : Value} {t u e : TypeId} (ht : P.underlying t = some (.pointer e)) (hx : ρ X = x) (hy : ρ (.const (.pointer none)) = y) (H : sNeqNil x K) (hc : y = (.pointer none) := by rfl) : ∃ v, PY P ρ ⟨dst, .binOp .neq t X (.const (.pointer none)) u, tp, pos, after, g⟩ v ∧ K v := by
  obtain ⟨a, rfl, hk⟩ := H
  subst hc
  refine ⟨_, fun w => ?_, hk⟩
  have hb := run_neq_pointer_nil (P := P) w t a (by simp [Program.pointee, ht])
  cases a <;> simp [execOp, hx, hy, go_sem, eqGuard, hb]
theorem p_eqlNilS {X : Operand} {x y : Value} {t u e : TypeId} (ht : P.underlying t = some (.slice e)) (hx : ρ X = x) (hy : ρ (.const (.slice none 0 0)) = y) (H : sEqlNilS x K) (hc : y = (.slice none 0 0) := by rfl) : ∃ v, PY P ρ ⟨dst, .binOp .eql t X (.const (.slice none 0 0)) u, tp, pos, after, g⟩ v ∧ K v := by
  obtain ⟨a, n, c, rfl, hk⟩ := H
  subst hc
  refine ⟨_, fun w => ?_, hk⟩
  have hb := Lib.run_eql_slice_nil (P := P) w t e a n c 0 0 ht
  cases a <;> simp [execOp, hx, hy, go_sem, eqGuard, hb]
theorem p_neqNilS {X : Operand} {x y : Value} {t u e : TypeId} (ht : P.underlying t = some (.slice e)) (hx : ρ X = x) (hy : ρ (.const (.slice none 0 0)) = y) (H : sNeqNilS x K) (hc : y = (.slice none 0 0) := by rfl) : ∃ v, PY P ρ ⟨dst, .binOp .neq t X (.const (.slice none 0 0)) u, tp, pos, after, g⟩ v ∧ K v := by
  obtain ⟨a, n, c, rfl, hk⟩ := H
  subst hc
  refine ⟨_, fun w => ?_, hk⟩
  have hb := run_neq_slice_nil_any (P := P) w t e a n c 0 0 ht
  cases a <;> simp [execOp, hx, hy, go_sem, eqGuard, hb]
theorem p_ixs {X Y : Operand} {x y : Value} {t e sz : Nat} (ht : P.underlying t = some (.slice e)) (hs : ∀ w, (sizeOf e).run P w = .ok sz w) (hx : ρ X = x) (hy : ρ Y = y) (H : sIxS x y sz K) : ∃ v, PY P ρ ⟨dst, .indexAddr t X Y, tp, pos, after, g⟩ v ∧ K v := by
  obtain ⟨b, o, n, c, k, j, rfl, rfl, h0, h1, hk⟩ := H
  refine ⟨_, fun w => ?_, hk⟩
  have hu : ∀ w, (underlying t).run P w = .ok (.slice e) w := fun w => by simp [underlying, go_sem, ht]
  simp [execOp, hx, hy, go_sem, Instr.indexAt, asIntOf, hu, h0, h1, hs, Addr.add]
theorem p_ixa {X Y : Operand} {x y : Value} {t e n sz : Nat} (ht : P.underlying t = some (.array n e)) (hs : ∀ w, (sizeOf e).run P w = .ok sz w) (hx : ρ X = x) (hy : ρ Y = y) (H : sIxA x y n sz K) : ∃ v, PY P ρ ⟨dst, .indexAddr t X Y, tp, pos, after, g⟩ v ∧ K v := by
  obtain ⟨b, o, k, j, rfl, rfl, h0, h1, hk⟩ := H
  refine ⟨_, fun w => ?_, hk⟩
  have hu : ∀ w, (underlying t).run P w = .ok (.array n e) w := fun w => by simp [underlying, go_sem, ht]
  simp [execOp, hx, hy, go_sem, Instr.indexAt, Instr.sureAddr, asIntOf, hu, h0, h1, hs, Addr.add]
end
end Go.HW
