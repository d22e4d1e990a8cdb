/- Texts in one. -/
import Derived.DeepKeys
import Derived.KernelRfl
import Derived.Below
import Derived.OpenShut
import Derived.Deep.Slices
import Derived.Lib.SmallJoins
import Derived.DataReads
import Derived.Lib.SlBytesConst
import Derived.WideShapes
import Derived.Test.YtmhhjpfkipficaaDoorProg
import Derived.Test.YtmhhjpfkipficaaDoorKw1
section
set_option linter.unusedVariables false
section
/- Equality of structs and arrays of numbers and bools: helpers. -/
namespace Go.HW
open Go
theorem okC_i {k : IntKind} {ks : List (Option IntKind)} {l : List Value} (h : okC (some k :: ks) l) : ∃ a r, l = .int k a :: r ∧ okC ks r := by
  match l, h with
  | .int k' a :: r, h => exact ⟨a, r, by rw [h.1], h.2⟩
theorem okC_b {ks : List (Option IntKind)} {l : List Value} (h : okC (none :: ks) l) : ∃ a r, l = .bool a :: r ∧ okC ks r := by
  match l, h with
  | .bool a :: r, h => exact ⟨a, r, rfl, h⟩
theorem okC_n {l : List Value} (h : okC [] l) : l = [] := by
  match l, h with
  | [], _ => rfl
theorem ite_ok {a b : Int} {y : Bool} {w : World} : (if a = b then Result.ok y w else Result.ok false w) = Result.ok (a == b && y) w := by
  by_cases h : a = b <;> simp [h]
theorem ite_okb {a b y : Bool} {w : World} : (if a = b then Result.ok y w else Result.ok false w) = Result.ok (a == b && y) w := by
  by_cases h : a = b <;> simp [h]
theorem ite_ok2 {b y : Bool} {w : World} : (if b = false then Result.ok false w else Result.ok y w) = Result.ok (b && y) w := by
  cases b <;> rfl
end Go.HW

end

section
/- What the words come to, on values that are known. -/
namespace Go.HW
open Go

section
variable {K : Value → Prop} {KH : Value → Heap → Prop} {h : Heap} {b o n : Nat}
@[simp] theorem ev_nil : sNil (ptr b o) K = K (ptr b o) := propext ⟨fun x => x.2, fun x => ⟨⟨b, o, rfl⟩, x⟩⟩
@[simp] theorem ev_off : sOff (ptr b o) n K = K (ptr b (o + n)) :=
  propext ⟨fun ⟨b', o', e, x⟩ => by cases e; exact x, fun x => ⟨b, o, rfl, x⟩⟩
@[simp] theorem ev_ld : sLd h (ptr b o) K = (match h.at b o with | some v => K v | none => False) := by
  cases e : h.at b o with
  | none => exact propext ⟨fun ⟨b', o', v, e1, e2, _⟩ => (by cases e1; rw [e] at e2; cases e2), fun x => x.elim⟩
  | some u => exact propext ⟨fun ⟨b', o', v, e1, e2, x⟩ => by cases e1; rw [e] at e2; cases e2; exact x, fun x => ⟨b, o, u, rfl, e, x⟩⟩
theorem ev_st {v : Value} {K : Heap → Prop} (h1 : (h.at b o).isSome = true) (h2 : h.cold b o = true) (h3 : Cell1 v) : sSt h (ptr b o) v K = K (h.put b o v) :=
  propext ⟨fun ⟨b', o', e, _, _, _, x⟩ => by cases e; exact x, fun x => ⟨b, o, rfl, h1, h2, h3, x⟩⟩
@[simp] theorem ev_cmp {f : Int → Int → Bool} {k : IntKind} {x y : Int} : sCmp f (.int k x) (.int k y) K = K (.bool (f x y)) :=
  propext ⟨fun ⟨k', a, b, e1, e2, x⟩ => by cases e1; cases e2; exact x, fun x => ⟨k, _, _, rfl, rfl, x⟩⟩
@[simp] theorem ev_lt {k : IntKind} {x y : Int} : sLt (.int k x) (.int k y) K = K (.bool (decide (x < y))) := ev_cmp
@[simp] theorem ev_le {k : IntKind} {x y : Int} : sLe (.int k x) (.int k y) K = K (.bool (decide (x ≤ y))) := ev_cmp
@[simp] theorem ev_gt {k : IntKind} {x y : Int} : sGt (.int k x) (.int k y) K = K (.bool (decide (y < x))) := ev_cmp
@[simp] theorem ev_ge {k : IntKind} {x y : Int} : sGe (.int k x) (.int k y) K = K (.bool (decide (y ≤ x))) := ev_cmp
@[simp] theorem ev_eq {k : IntKind} {x y : Int} : sEq (.int k x) (.int k y) K = K (.bool (x == y)) := ev_cmp
@[simp] theorem ev_ne {k : IntKind} {x y : Int} : sNe (.int k x) (.int k y) K = K (.bool (x != y)) := ev_cmp
@[simp] theorem ev_ar {f : Int → Int → Int} {k : IntKind} {x y : Int} : sAr f k (.int k x) (.int k y) K = K (.int k (k.wrap (f x y))) :=
  propext ⟨fun ⟨a, b, e1, e2, x⟩ => by cases e1; cases e2; exact x, fun x => ⟨_, _, rfl, rfl, x⟩⟩
@[simp] theorem ev_add {k : IntKind} {x y : Int} : sAdd k (.int k x) (.int k y) K = K (.int k (k.wrap (x + y))) := ev_ar
@[simp] theorem ev_sub {k : IntKind} {x y : Int} : sSub k (.int k x) (.int k y) K = K (.int k (k.wrap (x - y))) := ev_ar
@[simp] theorem ev_mul {k : IntKind} {x y : Int} : sMul k (.int k x) (.int k y) K = K (.int k (k.wrap (x * y))) := ev_ar
theorem ev_rem {k : IntKind} {x y : Int} (h0 : y ≠ 0) : sRem k (.int k x) (.int k y) K = K (.int k (x.tmod y)) :=
  propext ⟨fun ⟨a, b, e1, e2, _, x⟩ => by cases e1; cases e2; exact x, fun x => ⟨_, _, rfl, rfl, h0, x⟩⟩
@[simp] theorem ev_conv {k j : IntKind} {x : Int} : sConv k (.int j x) K = K (.int k (k.wrap x)) :=
  propext ⟨fun ⟨a, b, e1, x⟩ => by cases e1; exact x, fun x => ⟨_, _, rfl, x⟩⟩
@[simp] theorem ev_neg {k : IntKind} {x : Int} : sNeg k (.int k x) K = K (.int k (k.wrap (0 - x))) :=
  propext ⟨fun ⟨a, e1, x⟩ => by cases e1; exact x, fun x => ⟨_, rfl, x⟩⟩
@[simp] theorem ev_min {k : IntKind} {x y : Int} : sMin (.int k x) (.int k y) K = K (.int k (if y < x then y else x)) :=
  propext ⟨fun ⟨k', a, b, e1, e2, x⟩ => by cases e1; cases e2; exact x, fun x => ⟨_, _, _, rfl, rfl, x⟩⟩
@[simp] theorem ev_max {k : IntKind} {x y : Int} : sMax (.int k x) (.int k y) K = K (.int k (if x < y then y else x)) :=
  propext ⟨fun ⟨k', a, b, e1, e2, x⟩ => by cases e1; cases e2; exact x, fun x => ⟨_, _, _, rfl, rfl, x⟩⟩
@[simp] theorem ev_not {x : Bool} : sNot (.bool x) K = K (.bool !x) :=
  propext ⟨fun ⟨a, e1, x⟩ => by cases e1; exact x, fun x => ⟨_, rfl, x⟩⟩
@[simp] theorem ev_if {x : Bool} {A B : Prop} : sIf (.bool x) A B = (if x = true then A else B) := by
  cases x
  · exact propext ⟨fun ⟨_, e, _, f⟩ => by cases e; exact f rfl, fun f => ⟨false, rfl, fun e => by (cases e), fun _ => f⟩⟩
  · exact propext ⟨fun ⟨_, e, f, _⟩ => by cases e; exact f rfl, fun f => ⟨true, rfl, fun _ => f, fun e => by cases e⟩⟩
@[simp] theorem ev_eqlB {x y : Bool} : sEqlB (.bool x) (.bool y) K = K (.bool (x == y)) :=
  propext ⟨fun ⟨a, b, e1, e2, x⟩ => by cases e1; cases e2; exact x, fun x => ⟨_, _, rfl, rfl, x⟩⟩
@[simp] theorem ev_eqlNil {x : Option Addr} : sEqlNil (.pointer x) K = K (.bool x.isNone) :=
  propext ⟨fun ⟨a, e1, x⟩ => by cases e1; exact x, fun x => ⟨_, rfl, x⟩⟩
@[simp] theorem ev_neqNil {x : Option Addr} : sNeqNil (.pointer x) K = K (.bool (!x.isNone)) :=
  propext ⟨fun ⟨a, e1, x⟩ => by cases e1; exact x, fun x => ⟨_, rfl, x⟩⟩
@[simp] theorem ev_eqlNilS {x : Option Addr} {m c : Nat} : sEqlNilS (.slice x m c) K = K (.bool x.isNone) :=
  propext ⟨fun ⟨_, _, _, e1, x⟩ => by cases e1; exact x, fun x => ⟨_, _, _, rfl, x⟩⟩
@[simp] theorem ev_len {x : Option Addr} {m c : Nat} : sLen (.slice x m c) K = K (.int .i64 m) :=
  propext ⟨fun ⟨_, _, _, e1, x⟩ => by cases e1; exact x, fun x => ⟨_, _, _, rfl, x⟩⟩
@[simp] theorem ev_tup {vs : Array Value} {i : Nat} : sTup (.tuple vs) i K = (match vs[i]? with | some v => K v | none => False) := by
  cases e : vs[i]? with
  | none => exact propext ⟨fun ⟨vs', v, e1, e2, _⟩ => (by cases e1; rw [e] at e2; cases e2), fun x => x.elim⟩
  | some u => exact propext ⟨fun ⟨vs', v, e1, e2, x⟩ => by cases e1; rw [e] at e2; cases e2; exact x, fun x => ⟨vs, u, rfl, e, x⟩⟩
@[simp] theorem ev_fld {vs : Array Value} {i : Nat} : sFld (.agg vs) i K = (match vs[i]? with | some v => K v | none => False) := by
  cases e : vs[i]? with
  | none => exact propext ⟨fun ⟨vs', v, e1, e2, _⟩ => (by cases e1; rw [e] at e2; cases e2), fun x => x.elim⟩
  | some u => exact propext ⟨fun ⟨vs', v, e1, e2, x⟩ => by cases e1; rw [e] at e2; cases e2; exact x, fun x => ⟨vs, u, rfl, e, x⟩⟩
@[simp] theorem ev_and {x : Bool} {M : (Value → Prop) → Prop} : sAnd (.bool x) M K = (if x = true then M K else K (.bool false)) := by
  cases x
  · exact propext ⟨fun ⟨_, e, _, f⟩ => by cases e; exact f rfl, fun f => ⟨false, rfl, fun e => by (cases e), fun _ => f⟩⟩
  · exact propext ⟨fun ⟨_, e, f, _⟩ => by cases e; exact f rfl, fun f => ⟨true, rfl, fun _ => f, fun e => by cases e⟩⟩
@[simp] theorem ev_or {x : Bool} {M : (Value → Prop) → Prop} : sOr (.bool x) M K = (if x = true then K (.bool true) else M K) := by
  cases x
  · exact propext ⟨fun ⟨_, e, f, _⟩ => by cases e; exact f rfl, fun f => ⟨false, rfl, fun _ => f, fun e => by cases e⟩⟩
  · exact propext ⟨fun ⟨_, e, _, f⟩ => by cases e; exact f rfl, fun f => ⟨true, rfl, fun e => by (cases e), fun _ => f⟩⟩
@[simp] theorem ev_andh {x : Bool} {M : (Value → Heap → Prop) → Prop} : sAndH (.bool x) h M KH = (if x = true then M KH else KH (.bool false) h) := by
  cases x
  · exact propext ⟨fun ⟨_, e, _, f⟩ => by cases e; exact f rfl, fun f => ⟨false, rfl, fun e => by (cases e), fun _ => f⟩⟩
  · exact propext ⟨fun ⟨_, e, f, _⟩ => by cases e; exact f rfl, fun f => ⟨true, rfl, fun _ => f, fun e => by cases e⟩⟩
@[simp] theorem ev_orh {x : Bool} {M : (Value → Heap → Prop) → Prop} : sOrH (.bool x) h M KH = (if x = true then KH (.bool true) h else M KH) := by
  cases x
  · exact propext ⟨fun ⟨_, e, f, _⟩ => by cases e; exact f rfl, fun f => ⟨false, rfl, fun _ => f, fun e => by cases e⟩⟩
  · exact propext ⟨fun ⟨_, e, _, f⟩ => by cases e; exact f rfl, fun f => ⟨true, rfl, fun e => by (cases e), fun _ => f⟩⟩
@[simp] theorem ev_eqlAgg {xs ys : Array Value} {ks : List (Option IntKind)} (h1 : okC ks xs.toList) (h2 : okC ks ys.toList) : sEqlAgg (.agg xs) (.agg ys) ks K = K (.bool (eqVs xs.toList ys.toList)) :=
  propext ⟨fun ⟨_, _, e1, e2, _, _, x⟩ => by cases e1; cases e2; exact x, fun x => ⟨_, _, rfl, rfl, h1, h2, x⟩⟩
theorem ev_ixs {b o m c : Nat} {k : IntKind} {j : Int} {sz : Nat} (h0 : 0 ≤ j) (h1 : j < m) : sIxS (.slice (some ⟨b, o, none⟩) m c) (.int k j) sz K = K (ptr b (o + j.toNat * sz)) :=
  propext ⟨fun ⟨_, _, _, _, _, _, e1, e2, _, _, x⟩ => by cases e1; cases e2; exact x, fun x => ⟨_, _, _, _, _, _, rfl, rfl, h0, h1, x⟩⟩
end

/-! ### Blocks -/
/-- Block b holds these cells. -/
def Heap.has (h : Heap) (b : Nat) (c : Array Value) (t : TypeId) : Prop := h[b]? = some (.cells c t (0, 0))
def Heap.upd (h : Heap) (b : Nat) (c : Array Value) (t : TypeId) : Heap := h.setIfInBounds b (.cells c t (0, 0))

section
variable {h : Heap} {b o t : Nat} {c : Array Value}
theorem Heap.has.lt (hb : h.has b c t) : b < h.size := (Array.getElem?_eq_some_iff.1 hb).1
theorem Heap.has.at (hb : h.has b c t) (o : Nat) : h.at b o = c[o]? := by unfold Heap.at; rw [show h[b]? = _ from hb]
theorem Heap.has.cold (hb : h.has b c t) (o : Nat) : h.cold b o = true := by unfold Heap.cold; rw [show h[b]? = _ from hb]; simp
theorem Heap.has.put (hb : h.has b c t) (o : Nat) (v : Value) : h.put b o v = h.upd b (c.setIfInBounds o v) t := by
  unfold Heap.put Heap.upd
  apply Array.ext_getElem?
  intro i
  rw [Array.getElem?_modify, Array.getElem?_setIfInBounds]
  by_cases e : b = i
  · subst e
    rw [if_pos rfl, if_pos rfl, if_pos hb.lt, show h[b]? = _ from hb]
    rfl
  · rw [if_neg e, if_neg e]
theorem Heap.has_upd (hb : b < h.size) (c : Array Value) (t : TypeId) : (h.upd b c t).has b c t := by
  unfold Heap.has Heap.upd; simp [hb]
@[simp] theorem Heap.upd_upd (c' : Array Value) (t' : TypeId) : (h.upd b c t).upd b c' t' = h.upd b c' t' := by
  unfold Heap.upd; simp
@[simp] theorem Heap.size_upd : (h.upd b c t).size = h.size := by unfold Heap.upd; simp
theorem Heap.has_new (c : Array Value) (t : TypeId) : Heap.has (h.push (.cells c t)) h.size c t := by
  unfold Heap.has; simp
theorem ev_st_has {v : Value} {K : Heap → Prop} (hb : h.has b c t) (ho : o < c.size) (h3 : Cell1 v) : sSt h (ptr b o) v K = K (h.upd b (c.setIfInBounds o v) t) := by
  rw [ev_st (by rw [hb.at]; simp [ho]) (hb.cold o) h3, hb.put]
end
end Go.HW

end

section
/- Heaps that grew, and rows of numbers that were there before. -/
namespace Go.HW
open Go

section
variable {K : Value → Prop} {KH : Value → Heap → Prop} {h : Heap} {x y : Bool}
/-! A guarded group that has no effect: one Bool. -/
theorem ev_and_p : sAnd (.bool x) (fun k => k (.bool y)) K = K (.bool (x && y)) := by rw [ev_and]; cases x <;> simp
theorem ev_or_p : sOr (.bool x) (fun k => k (.bool y)) K = K (.bool (x || y)) := by rw [ev_or]; cases x <;> simp
end

/-- Old blocks are as they were. -/
structure Ext (h h' : Heap) : Prop where
  size : h.size ≤ h'.size
  same : ∀ i, i < h.size → h'[i]? = h[i]?

section
variable {h h' h'' : Heap} {b o t : Nat} {c : Array Value} {x : Obj} {v : Value}
theorem Ext.refl (h : Heap) : Ext h h := ⟨Nat.le_refl _, fun _ _ => rfl⟩
theorem Ext.trans (a : Ext h h') (b : Ext h' h'') : Ext h h'' := ⟨Nat.le_trans a.size b.size, fun i hi => (b.same i (Nat.lt_of_lt_of_le hi a.size)).trans (a.same i hi)⟩
theorem Ext.push (a : Ext h h') : Ext h (h'.push x) := by
  refine ⟨?_, fun i hi => ?_⟩
  · have := a.size; rw [Array.size_push]; omega
  · have := a.size
    rw [Array.getElem?_push, if_neg (by omega)]; exact a.same i hi
theorem Ext.at (a : Ext h h') (hb : b < h.size) : h'.at b o = h.at b o := by unfold Heap.at; rw [a.same b hb]
theorem Ext.has (a : Ext h h') (hb : h.has b c t) : h'.has b c t := by unfold Heap.has; rw [a.same b hb.lt]; exact hb
end

/-- The slice v bears these numbers. -/
def Nums (k : IntKind) (h : Heap) (v : Value) (z : List Int) : Prop :=
  ∃ a n m, v = .slice a n m ∧ z.length = n ∧ n ≤ m ∧ (n = 0 ∨ ∃ b o, a = some ⟨b, o, none⟩ ∧ b < h.size ∧ ∀ i, i < n → h.at b (o + i) = some (.int k (z.getD i 0)))

section
variable {h h' : Heap} {k : IntKind} {v : Value} {z : List Int} {K : Value → Prop}
theorem Nums.ext (a : Nums k h v z) (e : Ext h h') : Nums k h' v z := by
  obtain ⟨a, n, m, rfl, hn, hm, h0 | ⟨b, o, rfl, hb, hc⟩⟩ := a
  · exact ⟨_, _, _, rfl, hn, hm, .inl h0⟩
  · exact ⟨_, _, _, rfl, hn, hm, .inr ⟨b, o, rfl, Nat.lt_of_lt_of_le hb e.size, fun i hi => (e.at hb).trans (hc i hi)⟩⟩
theorem Nums.len (a : Nums k h v z) : sLen v K = K (.int .i64 z.length) := by
  obtain ⟨a, n, m, rfl, hn, _, _⟩ := a
  rw [ev_len, hn]
end

theorem wrap_s {k : IntKind} {x : Int} (n : Nat) (hk : k.bits = n + 1) (hs : k.signed = true) (h0 : -(2 ^ n : Int) ≤ x) (h1 : x < (2 ^ n : Int)) : k.wrap x = x := by
  have e : (2 : Int) ^ (n + 1) = 2 * 2 ^ n := by rw [Int.pow_succ]; omega
  unfold IntKind.wrap
  rw [hk, hs, e, Nat.add_sub_cancel]
  generalize (2 : Int) ^ n = m at *
  simp only [Bool.true_and, decide_eq_true_eq, ge_iff_le]
  by_cases hx : 0 ≤ x
  · rw [Int.emod_eq_of_lt hx (by omega), if_neg (by omega)]
  · have : x % (2 * m) = x + 2 * m := by rw [← Int.add_emod_right, Int.emod_eq_of_lt (by omega) (by omega)]
    rw [this, if_pos (by omega)]; omega
theorem wrap_i64 {x : Int} (h0 : -9223372036854775808 ≤ x) (h1 : x < 9223372036854775808) : IntKind.i64.wrap x = x := wrap_s 63 rfl rfl h0 h1
/-! A number that fits its kind. -/
theorem wf_int {k : IntKind} {x : Int} (h : (Lit.int k x).wf = true) : k.min ≤ x ∧ x ≤ k.max := by simpa [Lit.wf] using h
theorem wf_u8 {x : Int} (h : (Lit.int .u8 x).wf = true) : 0 ≤ x ∧ x < 256 := by have := wf_int h; simp [IntKind.min, IntKind.max, IntKind.signed, IntKind.bits] at this; omega
theorem wf_i64 {x : Int} (h : (Lit.int .i64 x).wf = true) : -9223372036854775808 ≤ x ∧ x ≤ 9223372036854775807 := by have := wf_int h; simp [IntKind.min, IntKind.max, IntKind.signed, IntKind.bits] at this; omega

/-- The frame of a law: no old block was touched. -/
theorem below_of {w w' : World} (e : Ext w.heap w'.heap) (k : Kept w w') : RowKit.Below w.heap.size w w' := ⟨k.os, k.tape, k.output, e.size, e.same⟩
theorem law_end {w w' : World} {e : Ending} (x : ret (fun v h' => v = .bool true ∧ Ext w.heap h') e w'.heap) (k : Kept w w') : e = .returned (.bool true) ∧ RowKit.Below w.heap.size w w' := by
  cases e with
  | returned v => exact ⟨by rw [x.1], below_of x.2 k⟩
  | _ => exact x.elim
end Go.HW

end

section
/- Blocks written whole, and slices as lists of elements. -/
namespace Go.HW
open Go

section
variable {h : Heap} {b o n t : Nat} {c : Array Value} {K : Value → Prop} {L : Heap → Prop}

theorem size_putRow : ∀ (vs : List Value) (c : Array Value) (o : Nat), (putRow c o vs).size = c.size
  | [], c, o => rfl
  | v :: r, c, o => by rw [putRow, size_putRow r]; simp
theorem get_putRow_lt : ∀ (vs : List Value) (c : Array Value) (o i : Nat), i < o → (putRow c o vs)[i]? = c[i]?
  | [], c, o, i, _ => rfl
  | v :: r, c, o, i, hi => by rw [putRow, get_putRow_lt r _ _ _ (by omega), Array.getElem?_setIfInBounds_ne (by omega)]
theorem get_putRow : ∀ (vs : List Value) (c : Array Value) (o i : Nat), i < vs.length → o + vs.length ≤ c.size → (putRow c o vs)[o + i]? = vs[i]?
  | [], c, o, i, hi, _ => by simp at hi
  | v :: r, c, o, 0, _, hc => by
    simp at hc
    rw [putRow, get_putRow_lt r _ _ _ (by omega), Nat.add_zero, Array.getElem?_setIfInBounds_self_of_lt (by omega)]; rfl
  | v :: r, c, o, i + 1, hi, hc => by
    simp at hi hc
    rw [putRow, show o + (i + 1) = (o + 1) + i by omega, get_putRow r _ _ i hi (by simp; omega)]; simp
theorem get_putRow_ge : ∀ (vs : List Value) (c : Array Value) (o i : Nat), o + vs.length ≤ i → (putRow c o vs)[i]? = c[i]?
  | [], c, o, i, _ => rfl
  | v :: r, c, o, i, hi => by simp at hi; rw [putRow, get_putRow_ge r _ _ _ (by omega), Array.getElem?_setIfInBounds_ne (by omega)]
theorem putRow_whole (vs : Array Value) (c : Array Value) (h : vs.size = c.size) : putRow c 0 vs.toList = vs := by
  apply Array.ext_getElem?
  intro i
  by_cases hi : i < vs.size
  · have := get_putRow vs.toList c 0 i (by simpa using hi) (by simp; omega)
    simpa using this
  · rw [Array.getElem?_eq_none (by rw [size_putRow]; omega), Array.getElem?_eq_none (by omega)]

theorem Heap.has.puts : ∀ (vs : List Value) (h : Heap) (c : Array Value) (o : Nat), h.has b c t → h.puts b o vs = h.upd b (putRow c o vs) t
  | [], h, c, o, hb => by
    show h = h.upd b c t
    unfold Heap.upd
    apply Array.ext_getElem?
    intro i
    by_cases e : b = i
    · subst e; rw [Array.getElem?_setIfInBounds_self_of_lt hb.lt]; exact hb
    · rw [Array.getElem?_setIfInBounds_ne e]
  | v :: r, h, c, o, hb => by
    show (h.put b o v).puts b (o + 1) r = _
    rw [hb.put, Heap.has.puts r _ _ _ (Heap.has_upd hb.lt _ _), Heap.upd_upd]; rfl
theorem Heap.has.fits (hb : h.has b c t) (ho : o + n ≤ c.size) : h.fits b o n := fun i hi => by
  refine ⟨?_, hb.cold _⟩
  rw [hb.at]; simp; omega
theorem Heap.has.row (hb : h.has b c t) (ho : o + n ≤ c.size) : h.row b o n (c.extract o (o + n)) := by
  refine ⟨by simp; omega, fun i hi => ?_⟩
  rw [hb.at, Array.getElem?_extract, if_pos (by omega)]
theorem ev_ldn_has (hb : h.has b c t) (ho : o + n ≤ c.size) : sLdN h (ptr b o) n K = K (.agg (c.extract o (o + n))) := by
  apply propext
  constructor
  · rintro ⟨b', o', cs, e, ⟨h1, h2⟩, x⟩
    cases e
    have : cs = c.extract o (o + n) := by
      apply Array.ext_getElem?
      intro i
      by_cases hi : i < n
      · rw [← h2 i hi, hb.at, Array.getElem?_extract, if_pos (by omega)]
      · rw [Array.getElem?_eq_none (by omega), Array.getElem?_eq_none (by simp; omega)]
    rwa [this] at x
  · exact fun x => ⟨b, o, _, rfl, hb.row ho, x⟩
theorem ev_ldn_all (hb : h.has b c t) (hn : c.size = n) : sLdN h (ptr b 0) n K = K (.agg c) := by
  rw [ev_ldn_has hb (by omega), Nat.zero_add, ← hn, Array.extract_size]
theorem ev_ld_has {v : Value} (hb : h.has b c t) (hv : c[o]? = some v) : sLd h (ptr b o) K = K v := by
  rw [ev_ld, hb.at, hv]
theorem ev_stn_has {cs : Array Value} (hb : h.has b c t) (hs : cs.size = n) (ho : o + n ≤ c.size) (h1 : ∀ u ∈ cs.toList, Cell1 u) : sStN h (ptr b o) (.agg cs) n L = L (h.upd b (putRow c o cs.toList) t) := by
  rw [← hb.puts]
  exact propext ⟨fun ⟨_, _, _, e1, e2, _, _, _, x⟩ => by cases e1; cases e2; exact x, fun x => ⟨b, o, cs, rfl, rfl, hs, h1, hb.fits ho, x⟩⟩
theorem ev_stn_all {cs : Array Value} (hb : h.has b c t) (hs : cs.size = n) (hn : c.size = n) (h1 : ∀ u ∈ cs.toList, Cell1 u) : sStN h (ptr b 0) (.agg cs) n L = L (h.upd b cs t) := by
  rw [ev_stn_has hb hs (by omega) h1, putRow_whole _ _ (by omega)]
end

/-! ### Guarded groups whose right side makes new blocks -/
section
variable {h : Heap} {KH : Value → Heap → Prop} {M : (Value → Heap → Prop) → Prop} {x y : Bool}
theorem and_ext (hM : x = true → ∀ K' : Value → Heap → Prop, (∀ h', Ext h h' → K' (.bool y) h') → M K') (H : ∀ h', Ext h h' → KH (.bool (x && y)) h') : sAndH (.bool x) h M KH := by
  cases x with
  | true => rw [ev_andh, if_pos rfl]; exact hM rfl _ H
  | false => rw [ev_andh]; exact H h (Ext.refl h)
theorem or_ext (hM : x = false → ∀ K' : Value → Heap → Prop, (∀ h', Ext h h' → K' (.bool y) h') → M K') (H : ∀ h', Ext h h' → KH (.bool (x || y)) h') : sOrH (.bool x) h M KH := by
  cases x with
  | true => rw [ev_orh, if_pos rfl]; exact H h (Ext.refl h)
  | false => rw [ev_orh]; exact hM rfl _ H
end
theorem new_intro {h : Heap} {z : Array Value} {t : TypeId} {K : Value → Heap → Prop} (H : ∀ b h', h.size ≤ b → Ext h h' → h'.has b z t → K (ptr b 0) h') : sNew h z t K :=
  H h.size _ (Nat.le_refl _) (Ext.refl h).push (Heap.has_new z t)
theorem box_intro {h : Heap} {x : Value} {c : Array Value} {t : TypeId} {K : Value → Heap → Prop} (hc : x.cells = c) (H : ∀ b h', h.size ≤ b → Ext h h' → h'.has b c t → K (ptr b 0) h') : sBox h x t K := by
  subst hc
  exact H h.size _ (Nat.le_refl _) (Ext.refl h).push (Heap.has_new _ t)
theorem stn_intro {h : Heap} {b n t : Nat} {c cs : Array Value} {K : Heap → Prop} (hb : h.has b c t) (hs : cs.size = n) (hn : c.size = n) (h1 : ∀ u ∈ cs.toList, Cell1 u) (H : ∀ h', h'.has b cs t → h'.size = h.size → (∀ i, i ≠ b → h'[i]? = h[i]?) → K h') : sStN h (ptr b 0) (.agg cs) n K := by
  rw [ev_stn_all hb hs hn h1]
  exact H _ (Heap.has_upd hb.lt _ _) Heap.size_upd fun i hi => by unfold Heap.upd; rw [Array.getElem?_setIfInBounds_ne (Ne.symm hi)]
/-- Blocks off b are as they were. -/
theorem Ext.off {h h1 h2 : Heap} {b : Nat} (e : Ext h h1) (hb : h.size ≤ b) (hs : h2.size = h1.size) (ho : ∀ i, i ≠ b → h2[i]? = h1[i]?) : Ext h h2 :=
  ⟨by rw [hs]; exact e.size, fun i hi => by rw [ho i (by omega)]; exact e.same i hi⟩
theorem Heap.has.off {h h' : Heap} {b b' t : Nat} {c : Array Value} (hb : h.has b c t) (ho : ∀ i, i ≠ b' → h'[i]? = h[i]?) (hn : b ≠ b') : h'.has b c t := by
  unfold Heap.has; rw [ho b hn]; exact hb
theorem wrap_u64 (x : Int) : IntKind.u64.wrap x = x % 18446744073709551616 := rfl

/-! ### Slices as lists -/
/-- Cells in a row. -/
def Heap.lay (h : Heap) (b o : Nat) (cs : List Value) : Prop := ∀ i u, cs[i]? = some u → h.at b (o + i) = some u
theorem Heap.lay.row {h : Heap} {b o : Nat} {cs : List Value} (l : h.lay b o cs) : h.row b o cs.length cs.toArray :=
  ⟨by simp, fun i hi => by rw [l i cs[i] (by simp [hi])]; simp [hi]⟩
theorem Heap.lay.ldn {h : Heap} {b o n : Nat} {cs : List Value} {K : Value → Prop} (l : h.lay b o cs) (hn : cs.length = n) : sLdN h (ptr b o) n K = K (.agg cs.toArray) := by
  subst hn
  apply propext
  constructor
  · rintro ⟨b', o', ds, e, ⟨h1, h2⟩, x⟩
    cases e
    have : ds = cs.toArray := by
      apply Array.ext_getElem?
      intro i
      by_cases hi : i < cs.length
      · rw [← h2 i hi, l.row.2 i hi]
      · rw [Array.getElem?_eq_none (by omega), Array.getElem?_eq_none (by simp; omega)]
    rwa [this] at x
  · exact fun x => ⟨b, o, _, rfl, l.row, x⟩
theorem Heap.lay.ld {h : Heap} {b o i : Nat} {cs : List Value} {u : Value} {K : Value → Prop} (l : h.lay b o cs) (hi : cs[i]? = some u) : sLd h (ptr b (o + i)) K = K u := by
  rw [ev_ld, l i u hi]

section
variable {α : Type} {enc : α → List Value} {sz : Nat} {h h' : Heap} {v : Value} {l : List α} {K : Value → Prop}
/-- The slice v bears these elements. -/
def Seq (enc : α → List Value) (sz : Nat) (h : Heap) (v : Value) (l : List α) : Prop :=
  ∃ a n m, v = .slice a n m ∧ l.length = n ∧ n ≤ m ∧ (n = 0 ∨ ∃ b o, a = some ⟨b, o, none⟩ ∧ b < h.size ∧ ∀ j x, l[j]? = some x → h.lay b (o + j * sz) (enc x))
theorem Seq.ext (a : Seq enc sz h v l) (e : Ext h h') : Seq enc sz h' v l := by
  obtain ⟨a, n, m, rfl, hn, hm, h0 | ⟨b, o, rfl, hb, hc⟩⟩ := a
  · exact ⟨_, _, _, rfl, hn, hm, .inl h0⟩
  · exact ⟨_, _, _, rfl, hn, hm, .inr ⟨b, o, rfl, Nat.lt_of_lt_of_le hb e.size, fun j x hj i u hu => (e.at hb).trans (hc j x hj i u hu)⟩⟩
theorem Seq.len (a : Seq enc sz h v l) : sLen v K = K (.int .i64 l.length) := by
  obtain ⟨a, n, m, rfl, hn, _, _⟩ := a
  rw [ev_len, hn]
/-- Element j. -/
theorem Seq.ix (a : Seq enc sz h v l) {j : Nat} {x : α} (hj : l[j]? = some x) : ∃ b o, b < h.size ∧ h.lay b o (enc x) ∧ ∀ (q : IntKind) (K : Value → Prop), sIxS v (.int q j) sz K = K (ptr b o) := by
  have hlt : j < l.length := (List.getElem?_eq_some_iff.1 hj).1
  obtain ⟨a, n, m, rfl, hn, hm, h2 | ⟨b, o, rfl, hb, hc⟩⟩ := a
  · omega
  · refine ⟨b, o + j * sz, hb, hc j x hj, fun q K => ?_⟩
    rw [ev_ixs (by omega) (by omega)]; rfl
theorem Seq.ldn (a : Seq enc sz h v l) {j : Nat} {x : α} (hj : l[j]? = some x) (hs : (enc x).length = sz) (q : IntKind) : sIxS v (.int q j) sz (fun p => sLdN h p sz K) = K (.agg (enc x).toArray) := by
  obtain ⟨b, o, _, h1, h2⟩ := a.ix hj
  rw [h2, h1.ldn hs]
theorem Seq.ld (a : Seq enc sz h v l) {j : Nat} {x : α} {u : Value} (hj : l[j]? = some x) (hu : enc x = [u]) (q : IntKind) : sIxS v (.int q j) sz (fun p => sLd h p K) = K u := by
  obtain ⟨b, o, _, h1, h2⟩ := a.ix hj
  have := h1.ld (K := K) (i := 0) (u := u) (by rw [hu]; rfl)
  rw [h2]; exact this
theorem get_flat (hs : ∀ x : α, (enc x).length = sz) : ∀ (l : List α) (j i : Nat) (x : α), l[j]? = some x → i < sz → (l.flatMap enc)[j * sz + i]? = (enc x)[i]?
  | [], j, i, x, hj, _ => by simp at hj
  | y :: l, 0, i, x, hj, hi => by
    simp at hj; subst hj
    rw [List.flatMap_cons, Nat.zero_mul, Nat.zero_add, List.getElem?_append_left (by rw [hs]; exact hi)]
  | y :: l, j + 1, i, x, hj, hi => by
    simp at hj
    rw [List.flatMap_cons, List.getElem?_append_right (by rw [hs, Nat.add_mul]; omega), hs, ← get_flat hs l j i x hj hi]
    congr 1
    rw [Nat.add_mul]; omega
theorem length_flat (hs : ∀ x : α, (enc x).length = sz) : ∀ (l : List α), (l.flatMap enc).length = l.length * sz
  | [] => by simp
  | y :: l => by rw [List.flatMap_cons, List.length_append, hs, length_flat hs l, List.length_cons, Nat.add_mul]; omega
/-- Where it lies: a row of cells. -/
theorem Seq.rowOf (hs : ∀ x : α, (enc x).length = sz) (a : Seq enc sz h v l) : HW.rowOf h v sz l.length (l.flatMap enc).toArray := by
  obtain ⟨a, n, m, rfl, hn, hm, h2 | ⟨b, o, rfl, hb, hc⟩⟩ := a
  · have : l = [] := List.eq_nil_of_length_eq_zero (by omega)
    subst this
    cases a with
    | none => rfl
    | some a => exact .inl ⟨rfl, rfl⟩
  · refine .inr ⟨rfl, by simp [length_flat hs], fun i hi => ?_⟩
    have hz : 0 < sz := by rcases Nat.eq_zero_or_pos sz with e | e; (subst e; simp at hi); exact e
    have hj : i / sz < l.length := (Nat.div_lt_iff_lt_mul hz).2 hi
    have hm : i % sz < sz := Nat.mod_lt _ hz
    have e : i = i / sz * sz + i % sz := by rw [Nat.mul_comm]; exact (Nat.div_add_mod i sz).symm
    have g := get_flat hs l (i / sz) (i % sz) l[i / sz] (by simp [hj]) hm
    rw [← e] at g
    have hx : (enc l[i / sz])[i % sz]? = some ((enc l[i / sz])[i % sz]'(by rw [hs]; exact hm)) := by simp
    have c := hc (i / sz) l[i / sz] (by simp [hj]) (i % sz) _ hx
    show h.at b (o + i) = _
    rw [show o + i = o + i / sz * sz + i % sz by omega, c, List.getElem?_toArray, g, hx]
theorem Seq.lenV (a : Seq enc sz h v l) : HW.lenV v = some l.length := by
  obtain ⟨a, n, m, rfl, hn, _, _⟩ := a
  rw [hn]; rfl

/-- A slice of one's own: it may be written, as far as its room goes. -/
def Own (enc : α → List Value) (sz : Nat) (h : Heap) (k : Option Nat) (v : Value) (l : List α) : Prop :=
  (k = none ∧ v = .slice none 0 0 ∧ l = []) ∨
  ∃ b p n m c t, k = some b ∧ v = .slice (some ⟨b, p, none⟩) n m ∧ l.length = n ∧ n ≤ m ∧ h.has b c t ∧ p + m * sz ≤ c.size ∧ ∀ j x, l[j]? = some x → ∀ i u, (enc x)[i]? = some u → c[p + j * sz + i]? = some u
theorem Own.nil : Own enc sz h none (.slice none 0 0) [] := .inl ⟨rfl, rfl, rfl⟩
theorem Own.seq {k : Option Nat} (o : Own enc sz h k v l) : Seq enc sz h v l := by
  rcases o with ⟨rfl, rfl, rfl⟩ | ⟨b, p, n, m, c, t, rfl, rfl, hn, hm, hb, hs, hc⟩
  · exact ⟨none, 0, 0, rfl, rfl, Nat.le_refl _, .inl rfl⟩
  · refine ⟨_, _, _, rfl, hn, hm, .inr ⟨b, p, rfl, hb.lt, fun j x hj i u hu => ?_⟩⟩
    rw [hb.at]; exact hc j x hj i u hu
/-- What keeps its block keeps it. -/
theorem Own.keep {k : Option Nat} (o : Own enc sz h k v l) (e : ∀ b, k = some b → h'[b]? = h[b]?) : Own enc sz h' k v l := by
  rcases o with ⟨rfl, rfl, rfl⟩ | ⟨b, p, n, m, c, t, rfl, rfl, hn, hm, hb, hs, hc⟩
  · exact .inl ⟨rfl, rfl, rfl⟩
  · exact .inr ⟨b, p, n, m, c, t, rfl, rfl, hn, hm, by unfold Heap.has; rw [e b rfl]; exact hb, hs, hc⟩
theorem Own.lt {k : Option Nat} (o : Own enc sz h k v l) {b : Nat} (hk : k = some b) : b < h.size := by
  rcases o with ⟨rfl, _, _⟩ | ⟨b', p, n, m, c, t, rfl, rfl, hn, hm, hb, hs, hc⟩
  · cases hk
  · cases hk; exact hb.lt
theorem Own.ext {k : Option Nat} (o : Own enc sz h k v l) (e : Ext h h') : Own enc sz h' k v l := o.keep fun _ hb => e.same _ (o.lt hb)
/-- From i to j. -/
theorem Own.cut {k : Option Nat} (o : Own enc sz h k v l) {i j : Nat} (hi : i ≤ j) (hj : j ≤ l.length) : ∃ v', Own enc sz h k v' ((l.take j).drop i) ∧ ∀ (lo hi : Option Value) (K : Value → Prop), bnd lo 0 i → bnd hi l.length j → K v' → sSl v lo hi sz K := by
  rcases o with ⟨rfl, rfl, rfl⟩ | ⟨b, p, n, m, c, t, rfl, rfl, hn, hm, hb, hs, hc⟩
  · simp at hj
    subst hj
    have : i = 0 := by omega
    subst this
    exact ⟨.slice none 0 0, .inl ⟨rfl, rfl, by simp⟩, fun lo hi K h1 h2 hk => ⟨none, 0, 0, 0, 0, rfl, h1, h2, by omega, by omega, hk⟩⟩
  · subst hn
    refine ⟨cutV (some ⟨b, p, none⟩) i j m sz, ?_, fun lo hi K h1 h2 hk => ⟨_, _, m, i, j, rfl, h1, h2, by omega, by omega, hk⟩⟩
    unfold cutV
    have hlen : ((l.take j).drop i).length = j - i := by rw [List.length_drop, List.length_take]; omega
    have hget : ∀ q x, ((l.take j).drop i)[q]? = some x → l[i + q]? = some x := fun q x hq => by
      rw [List.getElem?_drop, List.getElem?_take] at hq
      split at hq
      · exact hq
      · cases hq
    by_cases e : m = i
    · rw [if_pos e]
      refine .inr ⟨b, p, _, _, c, t, rfl, rfl, hlen, by omega, hb, ?_, fun q x hq => ?_⟩
      · have : m - i = 0 := by omega
        rw [this]; omega
      · have := (List.getElem?_eq_some_iff.1 hq).1
        omega
    · rw [if_neg e]
      have ea : Option.map (fun x : Addr => x.add (i * sz)) (some ⟨b, p, none⟩) = some ⟨b, p + i * sz, none⟩ := by
        simp only [Option.map_some, Addr.add]; split <;> simp_all
      rw [ea]
      refine .inr ⟨b, p + i * sz, _, _, c, t, rfl, rfl, hlen, by omega, hb, ?_, fun q x hq r u hu => ?_⟩
      · rw [Nat.add_assoc, ← Nat.add_mul, show i + (m - i) = m by omega]; exact hs
      · have := hc (i + q) x (hget q x hq) r u hu
        rw [Nat.add_mul] at this
        rw [← this]; congr 1; omega
theorem Seq.cut (o : Seq enc sz h v l) {i j : Nat} (hi : i ≤ j) (hj : j ≤ l.length) : ∃ v', Seq enc sz h v' ((l.take j).drop i) ∧ ∀ (lo hi : Option Value) (K : Value → Prop), bnd lo 0 i → bnd hi l.length j → K v' → sSl v lo hi sz K := by
  obtain ⟨a, n, m, rfl, hn, hm, hd⟩ := o
  subst hn
  have hlen : ((l.take j).drop i).length = j - i := by rw [List.length_drop, List.length_take]; omega
  have hget : ∀ q x, ((l.take j).drop i)[q]? = some x → l[i + q]? = some x := fun q x hq => by
    rw [List.getElem?_drop, List.getElem?_take] at hq
    split at hq
    · exact hq
    · cases hq
  refine ⟨cutV a i j m sz, ?_, fun lo hi K h1 h2 hk => ⟨_, _, m, i, j, rfl, h1, h2, by omega, by omega, hk⟩⟩
  unfold cutV
  refine ⟨_, _, _, rfl, hlen, by omega, ?_⟩
  by_cases h0 : j - i = 0
  · exact .inl h0
  rcases hd with hd | ⟨b, o, rfl, hb, hc⟩
  · omega
  right
  have ea : Option.map (fun x : Addr => x.add (i * sz)) (some ⟨b, o, none⟩) = some ⟨b, o + i * sz, none⟩ := by
    simp only [Option.map_some, Addr.add]; split <;> simp_all
  refine ⟨b, o + i * sz, by rw [if_neg (by omega), ea], hb, fun q x hq => ?_⟩
  have := hc (i + q) x (hget q x hq)
  rw [Nat.add_mul] at this
  rw [Nat.add_assoc]; exact this
theorem ev_app {β : Type} {enc : β → List Value} {sz bytes e : Nat} {z : Array Value} {h : Heap} {k : Option Nat} {v w : Value} {l r : List β} {K : Value → Heap → Prop} (hz : z.size = sz) (h0 : 0 < sz)
    (hs : ∀ x, (enc x).length = sz) (h1 : ∀ x, ∀ u ∈ enc x, Cell1 u) (o : Own enc sz h k v l) (hl : HW.lenV w = some r.length) (hr : HW.rowOf h w sz r.length (r.flatMap enc).toArray)
    (hb : (l.length + r.length) * bytes ≤ 2 ^ 40) (hb0 : 0 < bytes)
    (H : ∀ k' v' h', Own enc sz h' k' v' (l ++ r) → (k' = k ∨ k' = some h.size) → h.size ≤ h'.size → (∀ i, i < h.size → some i ≠ k → h'[i]? = h[i]?) → K v' h') : sApp h v w z e bytes K := by
  subst hz
  have hf : (r.flatMap enc).length = r.length * z.size := length_flat hs r
  have hcell : ∀ u ∈ (r.flatMap enc).toArray.toList, Cell1 u := fun u hu => by
    simp at hu
    obtain ⟨x, _, hx⟩ := hu
    exact h1 x u hx
  rcases o with ⟨rfl, rfl, rfl⟩ | ⟨b, p, n, m, c, t, rfl, rfl, hn, hm, hhas, hcs, hc⟩
  · refine ⟨none, 0, 0, r.length, _, rfl, hl, hr, by simpa using hf, by simpa using hb, hb0, hcell, fun x => ?_, fun x => ⟨#[], rfl, fun q hq hq2 => ?_⟩⟩
    · left
      have : r = [] := List.eq_nil_of_length_eq_zero (by omega)
      subst this
      exact ⟨rfl, H none _ h .nil (.inl rfl) (Nat.le_refl _) fun _ _ _ => rfl⟩
    · refine H (some h.size) _ _ (.inr ⟨h.size, 0, _, q, _, e, rfl, rfl, by simp, by omega, Heap.has_new _ _, ?_, ?_⟩) (.inr rfl) (by rw [Array.size_push]; omega) (fun i hi _ => by rw [Array.getElem?_push, if_neg (by omega)])
      · simp [Builtin.zeroCells, hf]
        rw [← Nat.add_mul]; exact Nat.mul_le_mul_right _ (by omega)
      · intro j x hj i u hu
        simp at hj
        have hi : i < z.size := by have := (List.getElem?_eq_some_iff.1 hu).1; rw [hs] at this; exact this
        have g := get_flat hs r j i x hj hi
        rw [hu] at g
        have hlt := (List.getElem?_eq_some_iff.1 g).1
        rw [Nat.zero_add, Array.getElem?_append_left (by simpa using hlt), Array.getElem?_append_right (by simp)]
        simpa using g
  · subst hn
    have hml := Nat.mul_le_mul_right z.size hm
    refine ⟨_, l.length, m, r.length, _, rfl, hl, hr, by simpa using hf, hb, hb0, hcell, fun x => .inr ⟨b, p, rfl, ?_, ?_⟩, fun x => ⟨c.extract p (p + l.length * z.size), ?_, fun q hq hq2 => ?_⟩⟩
    · refine hhas.fits ?_
      have := Nat.mul_le_mul_right z.size x
      rw [Nat.add_mul] at this; omega
    · rw [hhas.puts]
      refine H (some b) _ _ (.inr ⟨b, p, _, m, _, t, rfl, rfl, by simp, x, Heap.has_upd hhas.lt _ _, by rw [size_putRow]; exact hcs, ?_⟩) (.inl rfl) (by simp) (fun i hi hne => ?_)
      · intro j y hj i u hu
        have hi : i < z.size := by have := (List.getElem?_eq_some_iff.1 hu).1; rw [hs] at this; exact this
        by_cases hjl : j < l.length
        · rw [List.getElem?_append_left hjl] at hj
          rw [get_putRow_lt]
          · exact hc j y hj i u hu
          · have b1 : j * z.size + i < l.length * z.size := by
              calc j * z.size + i < j * z.size + z.size := by omega
                _ = (j + 1) * z.size := by rw [Nat.add_mul, Nat.one_mul]
                _ ≤ l.length * z.size := Nat.mul_le_mul_right _ hjl
            omega
        · rw [List.getElem?_append_right (by omega)] at hj
          have g := get_flat hs r (j - l.length) i y hj hi
          rw [hu] at g
          have hlt := (List.getElem?_eq_some_iff.1 g).1
          have e3 : j * z.size = l.length * z.size + (j - l.length) * z.size := by rw [← Nat.add_mul]; congr 1; omega
          have e2 : p + j * z.size + i = p + l.length * z.size + ((j - l.length) * z.size + i) := by omega
          rw [e2, get_putRow _ _ _ _ (by simpa using hlt)]
          · simpa using g
          · have := Nat.mul_le_mul_right z.size x
            rw [Nat.add_mul] at this
            have q1 : (r.flatMap enc).toArray.toList.length = (r.flatMap enc).length := (by simp)
            rw [q1]; omega
      · unfold Heap.upd
        rw [Array.getElem?_setIfInBounds_ne]
        intro e; subst e; exact hne rfl
    · have := hhas.row (o := p) (n := l.length * z.size) (by omega)
      exact .inr ⟨rfl, this⟩
    · have hel : (c.extract p (p + l.length * z.size)).size = l.length * z.size := by
        simp; omega
      refine H (some h.size) _ _ (.inr ⟨h.size, 0, _, q, _, e, rfl, rfl, by simp, by omega, Heap.has_new _ _, ?_, ?_⟩) (.inr rfl) (by rw [Array.size_push]; omega) (fun i hi _ => by rw [Array.getElem?_push, if_neg (by omega)])
      · rw [Array.size_append, Array.size_append, hel]
        simp [Builtin.zeroCells, hf]
        rw [← Nat.add_mul, ← Nat.add_mul]; exact Nat.mul_le_mul_right _ (by omega)
      · intro j y hj i u hu
        have hi : i < z.size := by have := (List.getElem?_eq_some_iff.1 hu).1; rw [hs] at this; exact this
        rw [Nat.zero_add]
        by_cases hjl : j < l.length
        · rw [List.getElem?_append_left hjl] at hj
          have b1 : j * z.size + i < l.length * z.size := by
            calc j * z.size + i < j * z.size + z.size := by omega
              _ = (j + 1) * z.size := by rw [Nat.add_mul, Nat.one_mul]
              _ ≤ l.length * z.size := Nat.mul_le_mul_right _ hjl
          rw [Array.getElem?_append_left (by rw [Array.size_append, hel]; omega), Array.getElem?_append_left (by rw [hel]; exact b1), Array.getElem?_extract, if_pos (by omega)]
          have := hc j y hj i u hu
          rw [Nat.add_assoc] at this
          exact this
        · rw [List.getElem?_append_right (by omega)] at hj
          have g := get_flat hs r (j - l.length) i y hj hi
          rw [hu] at g
          have hlt := (List.getElem?_eq_some_iff.1 g).1
          have e3 : j * z.size = l.length * z.size + (j - l.length) * z.size := by rw [← Nat.add_mul]; congr 1; omega
          have e2 : j * z.size + i = l.length * z.size + ((j - l.length) * z.size + i) := by omega
          rw [e2, Array.getElem?_append_left (by have q1 : (r.flatMap enc).toArray.size = (r.flatMap enc).length := (by simp); rw [Array.size_append, hel, q1]; omega), Array.getElem?_append_right (by rw [hel]; omega), hel, Nat.add_sub_cancel_left]
          simpa using g
end

/-! ### Literals of slices; loads with their heap left open -/
theorem fill_eq {d : Array Value} {P : Array Value → Prop} (hP : P d) : ∀ (ps : List (Nat × Nat × Value)) (z : Array Value), sFill z ps (fun cs => cs = d) → sFill z ps P
  | [], z, h => by have h : z = d := h; subst h; exact hP
  | (o, n, v) :: r, z, h => ⟨h.1, h.2.1, fill_eq hP r _ h.2.2⟩
theorem own_new {α : Type} {enc : α → List Value} {sz b t : Nat} {h : Heap} (hs : ∀ x, (enc x).length = sz) (l : List α) (hb : h.has b (l.flatMap enc).toArray t) : Own enc sz h (some b) (.slice (some ⟨b, 0, none⟩) l.length l.length) l := by
  refine .inr ⟨b, 0, _, _, _, t, rfl, rfl, rfl, Nat.le_refl _, hb, by simp [length_flat hs], fun j x hj i u hu => ?_⟩
  have hi : i < sz := by have := (List.getElem?_eq_some_iff.1 hu).1; rw [hs] at this; exact this
  have g := get_flat hs l j i x hj hi
  rw [hu] at g
  simpa using g
theorem slit_intro {α : Type} {enc : α → List Value} {sz t n : Nat} {h : Heap} {z : Array Value} {ps : List (Nat × Nat × Value)} {K : Value → Heap → Prop} (hs : ∀ x, (enc x).length = sz) (l : List α) (hn : l.length = n)
    (hf : sFill z ps fun cs => cs = (l.flatMap enc).toArray) (H : ∀ b v h', h.size ≤ b → Ext h h' → Own enc sz h' (some b) v l → K v h') : sSlit h z ps t n K := by
  subst hn
  exact fill_eq (H h.size _ _ (Nat.le_refl _) (Ext.refl h).push (own_new hs l (Heap.has_new _ t))) _ _ hf
theorem ldc_at {C : Heap → Prop} {b o : Nat} {v : Value} {K : Value → Prop} {h0 : Heap} (h1 : C h0) (hv : ∀ h, C h → h.at b o = some v) : sLdC C (ptr b o) K = K v :=
  propext ⟨fun ⟨_, _, u, e, hu, x⟩ => by
    cases e
    have := (hu h0 h1).symm.trans (hv h0 h1)
    cases this; exact x, fun x => ⟨b, o, v, rfl, hv, x⟩⟩
theorem ldnc_all {C : Heap → Prop} {b n t : Nat} {c : Array Value} {K : Value → Prop} {h0 : Heap} (h1 : C h0) (hc : c.size = n) (hv : ∀ h, C h → h.has b c t) : sLdNC C (ptr b 0) n K = K (.agg c) :=
  propext ⟨fun ⟨_, _, u, e, hu, x⟩ => by
    cases e
    have h2 := hu h0 h1
    have : u = c := by
      apply Array.ext_getElem?
      intro i
      by_cases hi : i < n
      · rw [← h2.2 i hi, (hv h0 h1).at, Nat.zero_add]
      · have := h2.1
        rw [Array.getElem?_eq_none (by omega), Array.getElem?_eq_none (by omega)]
    rwa [this] at x, fun x => ⟨b, 0, c, rfl, fun h hh => ⟨hc, fun i hi => by rw [(hv h hh).at, Nat.zero_add]⟩, x⟩⟩
theorem build_intro {z cs : Array Value} {ps : List (Nat × Nat × Value)} {K : Value → Prop} (hf : sFill z ps fun d => d = cs) (H : K (.agg cs)) : sBuild z ps K := fill_eq H ps z hf
/-- Rows of numbers, as slices of elements of one cell. -/
def encI (k : IntKind) (n : Int) : List Value := [.int k n]
theorem encI_len (k : IntKind) (n : Int) : (encI k n).length = 1 := rfl
abbrev Ints (k : IntKind) (h : Heap) (v : Value) (l : List Int) : Prop := Seq (encI k) 1 h v l
end Go.HW

end

section
/- Heaps that changed in some blocks alone. -/
namespace Go.HW
open Go

/-- Outside the blocks S, what was there is as it was. -/
structure Chg (S : Nat → Prop) (h h' : Heap) : Prop where
  size : h.size ≤ h'.size
  same : ∀ i, i < h.size → ¬ S i → h'[i]? = h[i]?

section
variable {h h' h'' : Heap} {S T : Nat → Prop} {b o t : Nat} {c : Array Value}
/-- What changed later lies in S, or is new. -/
theorem Chg.trans (a : Chg S h h') (b : Chg T h' h'') (hT : ∀ i, T i → S i ∨ h.size ≤ i) : Chg S h h'' :=
  ⟨Nat.le_trans a.size b.size, fun i hi hn => (b.same i (Nat.lt_of_lt_of_le hi a.size) (fun ht => by rcases hT i ht with x | x; exact hn x; omega)).trans (a.same i hi hn)⟩
theorem Chg.mono (a : Chg S h h') (hT : ∀ i, i < h.size → S i → T i) : Chg T h h' := ⟨a.size, fun i hi hn => a.same i hi fun x => hn (hT i hi x)⟩
theorem Chg.has (a : Chg S h h') (hb : h.has b c t) (hn : ¬ S b) : h'.has b c t := by unfold Heap.has; rw [a.same b hb.lt hn]; exact hb
theorem Chg.at (a : Chg S h h') (hb : b < h.size) (hn : ¬ S b) : h'.at b o = h.at b o := by unfold Heap.at; rw [a.same b hb hn]
end

theorem app_intro {β : Type} {enc : β → List Value} {sz bytes e : Nat} {z : Array Value} {h : Heap} {k : Option Nat} {v w : Value} {l r : List β} {K : Value → Heap → Prop} (hz : z.size = sz) (h0 : 0 < sz)
    (hs : ∀ x, (enc x).length = sz) (h1 : ∀ x, ∀ u ∈ enc x, Cell1 u) (o : Own enc sz h k v l) (q : Seq enc sz h w r)
    (hb : (l.length + r.length) * bytes ≤ 2 ^ 40) (hb0 : 0 < bytes)
    (H : ∀ k' v' h', Own enc sz h' k' v' (l ++ r) → (k' = k ∨ k' = some h.size) → Chg (fun i => some i = k) h h' → K v' h') : sApp h v w z e bytes K :=
  ev_app hz h0 hs h1 o q.lenV (q.rowOf hs) hb hb0 fun k' v' h' o' hk hs hh => H k' v' h' o' hk ⟨hs, fun i hi hn => hh i hi hn⟩
end Go.HW

end

section
/- Slices of structs that came in as arguments. -/
namespace Go.HW
open Go

/-- A slice whose elements are read one by one. -/
theorem open_seq {α : Type} [Inhabited α] {enc : α → List Value} {sz : Nat} {good : α → Prop} {H : Type} {en : TypeId × Value → H} {P : Program} {w : World} {base : Nat} {held : Bool} {t e : TypeId} (ht : P.underlying t = some (.slice e)) (hc : P.cellsOf e = sz) (h0 : 0 < sz) (hs : ∀ x, (enc x).length = sz)
    (elem : ∀ (n : Nat) (cs : List Value) (x : DataW H × List MemPlace), cs.length = sz → DataW.trod en P w base (fun _ => true) held n e cs = some x → ∃ y, cs = enc y ∧ good y)
    {fuel : Nat} {a : Option Addr} {len cap : Nat} {x : DataW H × List MemPlace} (h : DataW.trod en P w base (fun _ => true) held fuel t (Value.slice a len cap).cells.toList = some x) :
    ∃ l : List α, Seq enc sz w.heap (.slice a len cap) l ∧ l.length ≤ maxLen ∧ ∀ y ∈ l, good y := by
  rcases Deep.open_slice ht h with ⟨hcs, _⟩ | ⟨x, l, c, m, n, D, Pl, hcs, _, hl, hm, hmm, _, hel⟩
  · simp [Value.cells] at hcs
    obtain ⟨rfl, rfl, rfl⟩ := hcs
    exact ⟨[], ⟨_, _, _, rfl, rfl, Nat.le_refl _, .inl rfl⟩, by simp, by simp⟩
  · simp [Value.cells] at hcs
    obtain ⟨rfl, rfl, rfl⟩ := hcs
    simp at hmm
    subst hmm
    have hx : ∀ i, i < len → ∃ y : α, w.cells? base (x.add (i * sz)) sz = some (enc y) ∧ good y := fun i hi => by
      obtain ⟨cs', h1, h2⟩ := hel i (by omega)
      rw [hc] at h1
      obtain ⟨y, rfl, hy⟩ := elem _ _ _ (World.cells?_some h1).2.1 h2
      exact ⟨y, h1, hy⟩
    obtain ⟨f, hf⟩ := Deep.choose_lt hx
    refine ⟨(List.range len).map f, ⟨_, _, _, rfl, by simp, hl, ?_⟩, by simp; omega, fun y hy => ?_⟩
    · by_cases hz : len = 0
      · exact .inl hz
      right
      obtain ⟨b, o, sp⟩ := x
      have c0 := (World.cells?_some (hf 0 (by omega)).1).2.2 0 h0
      have hlt0 : 0 < (enc (f 0)).length := by rw [hs]; exact h0
      rw [List.getElem?_eq_getElem hlt0] at c0
      have hsp : sp = none := by
        simp [Addr.add, World.cell?] at c0
        split at c0
        · cases sp with
          | none => rfl
          | some _ => simp at c0
        · cases c0
      subst hsp
      have hb : b < w.heap.size := by
        by_cases hb : b < w.heap.size
        · exact hb
        · simp [Addr.add, World.cell?, hb] at c0
      refine ⟨b, o, rfl, hb, fun j y hj i u hu => ?_⟩
      have hjl : j < len := by have := (List.getElem?_eq_some_iff.1 hj).1; simpa using this
      have hy : y = f j := by simp [hjl] at hj; exact hj.symm
      subst hy
      have hi : i < sz := by have := (List.getElem?_eq_some_iff.1 hu).1; rw [hs] at this; exact this
      have c := (World.cells?_some (hf j hjl).1).2.2 i hi
      have e1 : ∀ p : Nat, (Addr.mk b o none).add p = ⟨b, o + p, none⟩ := fun p => by unfold Addr.add; split <;> simp_all
      have e2 : ∀ p q : Nat, (Addr.mk b p none).add q = ⟨b, p + q, none⟩ := fun p q => by unfold Addr.add; split <;> simp_all
      rw [e1, e2, cell_at rfl, hu] at c
      exact c
    · simp at hy
      obtain ⟨i, hi, rfl⟩ := hy
      exact (hf i hi).2

end Go.HW

end

section
/- Heaps in parts: predicates with a footprint, side by side; the frame comes along by itself. -/
namespace Go.HW
open Go

/-- A heap predicate with its footprint: the blocks that it owns. -/
structure HP where
  P : (Nat → Prop) → Heap → Prop
  loc : ∀ {s h h'}, P s h → (∀ b, s b → h'[b]? = h[b]?) → P s h'
  dom : ∀ {s h}, P s h → ∀ b, s b → b < h.size

def Stars : List HP → (Nat → Prop) → Heap → Prop
  | [], s, _ => ∀ b, ¬ s b
  | A :: L, s, h => ∃ s1 s2, A.P s1 h ∧ Stars L s2 h ∧ (∀ b, s1 b → ¬ s2 b) ∧ ∀ b, s b ↔ (s1 b ∨ s2 b)

theorem Stars.loc : ∀ {L : List HP} {s : Nat → Prop} {h h' : Heap}, Stars L s h → (∀ b, s b → h'[b]? = h[b]?) → Stars L s h'
  | [], _, _, _, x, _ => x
  | _ :: _, _, _, _, ⟨s1, s2, a, l, d, u⟩, e => ⟨s1, s2, HP.loc _ a fun b hb => e b ((u b).2 (.inl hb)), Stars.loc l fun b hb => e b ((u b).2 (.inr hb)), d, u⟩
theorem Stars.dom : ∀ {L : List HP} {s : Nat → Prop} {h : Heap}, Stars L s h → ∀ b, s b → b < h.size
  | [], _, _, x, b, hb => (x b hb).elim
  | _ :: _, _, _, ⟨s1, s2, a, l, _, u⟩, b, hb => ((u b).1 hb).elim (HP.dom _ a b) (Stars.dom l b)
theorem Stars.perm {L L' : List HP} (p : L.Perm L') : ∀ {s : Nat → Prop} {h : Heap}, Stars L s h → Stars L' s h := by
  induction p with
  | nil => exact fun x => x
  | cons A _ ih => exact fun ⟨s1, s2, a, l, d, u⟩ => ⟨s1, s2, a, ih l, d, u⟩
  | swap A B L =>
    rintro s h ⟨s1, s2, a, ⟨s3, s4, b, l, d, u⟩, d', u'⟩
    refine ⟨s3, fun i => s1 i ∨ s4 i, b, ⟨s1, s4, a, l, fun i h1 h4 => d' i h1 ((u i).2 (.inr h4)), fun i => Iff.rfl⟩, fun i h3 h => ?_, fun i => ?_⟩
    · rcases h with h | h
      · exact d' i h ((u i).2 (.inl h3))
      · exact d i h3 h
    · rw [u' i, u i]
      exact ⟨fun h => h.elim (fun h => .inr (.inl h)) fun h => h.elim .inl fun h => .inr (.inr h), fun h => h.elim (fun h => .inr (.inl h)) fun h => h.elim .inl fun h => .inr (.inr h)⟩
  | trans _ _ i1 i2 => exact fun x => i2 (i1 x)
theorem Stars.append : ∀ {L M : List HP} {s t : Nat → Prop} {h : Heap}, Stars L s h → Stars M t h → (∀ b, s b → ¬ t b) → Stars (L ++ M) (fun b => s b ∨ t b) h
  | [], M, s, t, h, x, y, _ => by
    have : (fun b => s b ∨ t b) = t := funext fun b => propext ⟨fun z => z.elim (fun z => (x b z).elim) id, .inr⟩
    rw [this]; exact y
  | A :: L, M, s, t, h, ⟨s1, s2, a, l, d, u⟩, y, dis => by
    refine ⟨s1, fun b => s2 b ∨ t b, a, Stars.append l y fun b h2 => dis b ((u b).2 (.inr h2)), fun b h1 h => ?_, fun b => ?_⟩
    · rcases h with h | h
      · exact d b h1 h
      · exact dis b ((u b).2 (.inl h1)) h
    · show (s b ∨ t b) ↔ _
      rw [u b, or_assoc]
theorem Stars.split : ∀ {L M : List HP} {s : Nat → Prop} {h : Heap}, Stars (L ++ M) s h → ∃ s1 s2, Stars L s1 h ∧ Stars M s2 h ∧ (∀ b, s1 b → ¬ s2 b) ∧ ∀ b, s b ↔ (s1 b ∨ s2 b)
  | [], M, s, h, x => ⟨fun _ => False, s, fun _ h => h, x, fun _ h => h.elim, fun b => by simp⟩
  | A :: L, M, s, h, ⟨s1, s2, a, l, d, u⟩ => by
    obtain ⟨t1, t2, x, y, d', u'⟩ := Stars.split l
    refine ⟨fun b => s1 b ∨ t1 b, t2, ⟨s1, t1, a, x, fun b h1 h2 => d b h1 ((u' b).2 (.inl h2)), fun b => Iff.rfl⟩, y, fun b h1 h2 => ?_, fun b => ?_⟩
    · rcases h1 with h1 | h1
      · exact d b h1 ((u' b).2 (.inr h2))
      · exact d' b h1 h2
    · rw [u b, u' b, or_assoc]

/-- All predicates side by side, in blocks that are new since h0; what h0 had is as it was. -/
structure Sep (h0 : Heap) (L : List HP) (h : Heap) : Prop where
  ex : ∃ s, Stars L s h ∧ ∀ b, s b → h0.size ≤ b
  ext : Ext h0 h

section
variable {h0 h h' : Heap} {A B C D E : HP} {F L M : List HP}
theorem Sep.start (h : Heap) : Sep h [] h := ⟨⟨fun _ => False, fun _ h => h, fun _ h => h.elim⟩, Ext.refl h⟩
theorem Sep.perm (s : Sep h0 L h) (p : L.Perm M) : Sep h0 M h := ⟨let ⟨x, y, z⟩ := s.ex; ⟨x, y.perm p, z⟩, s.ext⟩
theorem Sep.b1 (s : Sep h0 (A :: B :: F) h) : Sep h0 (B :: A :: F) h := s.perm (.swap _ _ _)
theorem Sep.b2 (s : Sep h0 (A :: B :: C :: F) h) : Sep h0 (C :: A :: B :: F) h := s.perm (List.perm_middle (l₁ := [A, B]))
theorem Sep.b3 (s : Sep h0 (A :: B :: C :: D :: F) h) : Sep h0 (D :: A :: B :: C :: F) h := s.perm (List.perm_middle (l₁ := [A, B, C]))
theorem Sep.b4 (s : Sep h0 (A :: B :: C :: D :: E :: F) h) : Sep h0 (E :: A :: B :: C :: D :: F) h := s.perm (List.perm_middle (l₁ := [A, B, C, D]))
theorem Sep.b5 {G : HP} (s : Sep h0 (A :: B :: C :: D :: E :: G :: F) h) : Sep h0 (G :: A :: B :: C :: D :: E :: F) h := s.perm (List.perm_middle (l₁ := [A, B, C, D, E]))
theorem Sep.b6 {G I : HP} (s : Sep h0 (A :: B :: C :: D :: E :: G :: I :: F) h) : Sep h0 (I :: A :: B :: C :: D :: E :: G :: F) h := s.perm (List.perm_middle (l₁ := [A, B, C, D, E, G]))
/-! The first one goes behind so many. -/
theorem Sep.p2 (s : Sep h0 (A :: B :: C :: F) h) : Sep h0 (B :: C :: A :: F) h := s.perm (List.perm_middle (l₁ := [B, C])).symm
theorem Sep.p3 (s : Sep h0 (A :: B :: C :: D :: F) h) : Sep h0 (B :: C :: D :: A :: F) h := s.perm (List.perm_middle (l₁ := [B, C, D])).symm
theorem Sep.p4 (s : Sep h0 (A :: B :: C :: D :: E :: F) h) : Sep h0 (B :: C :: D :: E :: A :: F) h := s.perm (List.perm_middle (l₁ := [B, C, D, E])).symm
theorem Sep.tail (s : Sep h0 (A :: F) h) : Sep h0 F h :=
  ⟨let ⟨_, ⟨_, s2, _, l, _, u⟩, z⟩ := s.ex; ⟨s2, l, fun b hb => z b ((u b).2 (.inr hb))⟩, s.ext⟩
theorem Sep.tail2 (s : Sep h0 (A :: B :: F) h) : Sep h0 F h := s.tail.tail
theorem Sep.drop1 (s : Sep h0 (A :: B :: F) h) : Sep h0 (A :: F) h := s.b1.tail
theorem Sep.ext' (s : Sep h0 F h) (e : Ext h h') : Sep h0 F h' :=
  ⟨let ⟨x, y, z⟩ := s.ex; ⟨x, y.loc fun b hb => e.same b (y.dom b hb), z⟩, s.ext.trans e⟩
/-- One step: the first predicate alone changes. -/
theorem Sep.step (s : Sep h0 (A :: F) h) (hz : h.size ≤ h'.size) (H : ∀ t, A.P t h → (∃ t', B.P t' h' ∧ ∀ b, t' b → t b ∨ h.size ≤ b) ∧ ∀ i, i < h.size → ¬ t i → h'[i]? = h[i]?) : Sep h0 (B :: F) h' := by
  obtain ⟨⟨x, ⟨s1, s2, a, l, d, u⟩, z⟩, e⟩ := s
  obtain ⟨⟨t', hb, ht⟩, hs⟩ := H s1 a
  refine ⟨⟨fun b => t' b ∨ s2 b, ⟨t', s2, hb, l.loc fun b h2 => hs b (l.dom b h2) fun h1 => d b h1 h2, fun b h1 h2 => ?_, fun b => Iff.rfl⟩, fun b h1 => ?_⟩, Nat.le_trans e.size hz, fun i hi => ?_⟩
  · rcases ht b h1 with h3 | h3
    · exact d b h3 h2
    · have := l.dom b h2; omega
  · rcases h1 with h1 | h1
    · rcases ht b h1 with h3 | h3
      · exact z b ((u b).2 (.inl h3))
      · have := e.size; omega
    · exact z b ((u b).2 (.inr h1))
  · rw [hs i (Nat.lt_of_lt_of_le hi e.size) fun h1 => by have := z i ((u i).2 (.inl h1)); omega]
    exact e.same i hi
theorem Sep.conv (s : Sep h0 (A :: F) h) (H : ∀ t, A.P t h → B.P t h) : Sep h0 (B :: F) h :=
  s.step (Nat.le_refl _) fun t ht => ⟨⟨t, H t ht, fun _ => .inl⟩, fun _ _ _ => rfl⟩
theorem Sep.head (s : Sep h0 (A :: F) h) : ∃ t, A.P t h ∧ ∀ b, t b → h0.size ≤ b := let ⟨_, ⟨s1, _, a, _, _, u⟩, z⟩ := s.ex; ⟨s1, a, fun b hb => z b ((u b).2 (.inl hb))⟩
/-- What was made anew over h comes beside what is there. -/
theorem Sep.add (s : Sep h0 F h) (n : Sep h L h') : Sep h0 (L ++ F) h' := by
  obtain ⟨⟨x, l, z⟩, e⟩ := s
  obtain ⟨⟨y, m, q⟩, e'⟩ := n
  refine ⟨⟨_, Stars.append m (l.loc fun b hb => e'.same b (l.dom b hb)) fun b h1 h2 => ?_, fun b h => ?_⟩, e.trans e'⟩
  · have := q b h1; have := l.dom b h2; omega
  · rcases h with h | h
    · have := q b h; have := e.size; omega
    · exact z b h
theorem Sep.add1 (s : Sep h0 F h) (n : Sep h [A] h') : Sep h0 (A :: F) h' := s.add n
/-- A part alone, over the heap that it is in. -/
theorem Sep.one (s : Sep h0 (A :: F) h) : Sep h0 [A] h :=
  ⟨let ⟨_, ⟨s1, _, a, _, _, u⟩, z⟩ := s.ex; ⟨s1, ⟨s1, fun _ => False, a, fun _ h => h, fun _ _ h => h, fun b => by simp⟩, fun b hb => z b ((u b).2 (.inl hb))⟩, s.ext⟩
end

/-! ### Some of them, in another order -/
theorem Stars.fn : ∀ {L : List HP} {s : Nat → Prop} {h : Heap}, Stars L s h → ∃ f : Nat → Nat → Prop, (∀ (i : Nat) (A : HP), L[i]? = some A → A.P (f i) h) ∧ (∀ i j b, i < L.length → j < L.length → i ≠ j → f i b → ¬ f j b) ∧ ∀ i b, i < L.length → f i b → s b
  | [], s, h, _ => ⟨fun _ _ => False, fun i A hi => by simp at hi, fun i j b hi => by simp at hi, fun i b hi => by simp at hi⟩
  | A :: L, s, h, ⟨s1, s2, a, l, d, u⟩ => by
    obtain ⟨f, h1, h2, h3⟩ := Stars.fn l
    refine ⟨fun i => match i with | 0 => s1 | i + 1 => f i, fun i B hi => ?_, fun i j b hi hj hne x y => ?_, fun i b hi x => ?_⟩
    · cases i with
      | zero => simp at hi; subst hi; exact a
      | succ i => exact h1 i B (by simpa using hi)
    · cases i with
      | zero => cases j with
        | zero => exact hne rfl
        | succ j => exact d b x (h3 j b (by simpa using hj) y)
      | succ i => cases j with
        | zero => exact d b y (h3 i b (by simpa using hi) x)
        | succ j => exact h2 i j b (by simpa using hi) (by simpa using hj) (fun e => hne (by rw [e])) x y
    · cases i with
      | zero => exact (u b).2 (.inl x)
      | succ i => exact (u b).2 (.inr (h3 i b (by simpa using hi) x))
def HP.emp : HP := ⟨fun s _ => ∀ b, ¬ s b, fun x _ => x, fun x b hb => (x b hb).elim⟩
/-! ### Making predicates -/
def HP.ex {α : Type} (A : α → HP) : HP where
  P s h := ∃ x, (A x).P s h
  loc := fun ⟨x, p⟩ e => ⟨x, (A x).loc p e⟩
  dom := fun ⟨x, p⟩ => (A x).dom p
def HP.all (L : List HP) : HP where
  P s h := Stars L s h
  loc p e := p.loc e
  dom p := p.dom
def Blk (b : Nat) (c : Array Value) (t : TypeId) : HP where
  P s h := (∀ i, s i ↔ i = b) ∧ h.has b c t
  loc := fun ⟨x, p⟩ e => ⟨x, by unfold Heap.has; rw [e b ((x b).2 rfl)]; exact p⟩
  dom := fun ⟨x, p⟩ i hi => by rw [(x i).1 hi]; exact p.lt
def Sl {α : Type} (enc : α → List Value) (sz : Nat) (v : Value) (l : List α) : HP where
  P s h := ∃ k, Own enc sz h k v l ∧ ∀ i, s i ↔ some i = k
  loc := fun ⟨k, o, x⟩ e => ⟨k, o.keep fun b hb => e b ((x b).2 hb.symm), x⟩
  dom := fun ⟨k, o, x⟩ i hi => o.lt ((x i).1 hi).symm

section
variable {h0 h h' : Heap} {A B : HP} {F L : List HP}
theorem Sep.open_ex {α : Type} {A : α → HP} (s : Sep h0 (HP.ex A :: F) h) : ∃ x, Sep h0 (A x :: F) h := by
  obtain ⟨⟨x, ⟨s1, s2, ⟨y, a⟩, l, d, u⟩, z⟩, e⟩ := s
  exact ⟨y, ⟨⟨x, ⟨s1, s2, a, l, d, u⟩, z⟩, e⟩⟩
theorem Sep.shut_ex {α : Type} {A : α → HP} (x : α) (s : Sep h0 (A x :: F) h) : Sep h0 (HP.ex A :: F) h := s.conv fun _ p => ⟨x, p⟩
theorem Sep.open_all (s : Sep h0 (HP.all L :: F) h) : Sep h0 (L ++ F) h := by
  obtain ⟨⟨x, ⟨s1, s2, a, l, d, u⟩, z⟩, e⟩ := s
  exact ⟨⟨_, Stars.append a l d, fun b hb => z b ((u b).2 hb)⟩, e⟩
theorem Sep.shut_all (s : Sep h0 (L ++ F) h) : Sep h0 (HP.all L :: F) h := by
  obtain ⟨⟨x, l, z⟩, e⟩ := s
  obtain ⟨s1, s2, a, m, d, u⟩ := l.split
  exact ⟨⟨x, ⟨s1, s2, a, m, d, u⟩, z⟩, e⟩
theorem Sep.push (s : Sep h0 (HP.all L :: A :: F) h) : Sep h0 (HP.all (L ++ [A]) :: F) h := Sep.shut_all (by rw [List.append_assoc]; exact s.open_all)
end

/-! ### Blocks -/
section
variable {h0 h : Heap} {F : List HP} {b o t n : Nat} {c : Array Value}
theorem Sep.has (s : Sep h0 (Blk b c t :: F) h) : h.has b c t := let ⟨_, x, _⟩ := s.head; x.2
theorem Sep.ld {v : Value} {K : Value → Prop} (s : Sep h0 (Blk b c t :: F) h) (hv : c[o]? = some v) : sLd h (ptr b o) K = K v := ev_ld_has s.has hv
theorem Sep.ldn {K : Value → Prop} (s : Sep h0 (Blk b c t :: F) h) (ho : o + n ≤ c.size) : sLdN h (ptr b o) n K = K (.agg (c.extract o (o + n))) := ev_ldn_has s.has ho
theorem Sep.ldall {K : Value → Prop} (s : Sep h0 (Blk b c t :: F) h) (hn : c.size = n) : sLdN h (ptr b 0) n K = K (.agg c) := ev_ldn_all s.has hn
theorem Sep.upd (s : Sep h0 (Blk b c t :: F) h) (c' : Array Value) : Sep h0 (Blk b c' t :: F) (h.upd b c' t) :=
  s.step (by rw [Heap.size_upd]; exact Nat.le_refl _) fun t' ht => ⟨⟨t', ⟨ht.1, Heap.has_upd ht.2.lt _ _⟩, fun _ => .inl⟩, fun i _ hn => by
    unfold Heap.upd; rw [Array.getElem?_setIfInBounds_ne fun e => hn ((ht.1 i).2 e.symm)]⟩
theorem Sep.st {v : Value} {K : Heap → Prop} (s : Sep h0 (Blk b c t :: F) h) (ho : o < c.size) (h3 : Cell1 v) (H : ∀ h', Sep h0 (Blk b (c.setIfInBounds o v) t :: F) h' → K h') : sSt h (ptr b o) v K := by
  rw [ev_st_has s.has ho h3]; exact H _ (s.upd _)
theorem Sep.stn {cs : Array Value} {K : Heap → Prop} (s : Sep h0 (Blk b c t :: F) h) (hs : cs.size = n) (ho : o + n ≤ c.size) (h1 : ∀ u ∈ cs.toList, Cell1 u) (H : ∀ h', Sep h0 (Blk b (putRow c o cs.toList) t :: F) h' → K h') : sStN h (ptr b o) (.agg cs) n K := by
  rw [ev_stn_has s.has hs ho h1]; exact H _ (s.upd _)
theorem Sep.stall {cs : Array Value} {K : Heap → Prop} (s : Sep h0 (Blk b c t :: F) h) (hs : cs.size = n) (hn : c.size = n) (h1 : ∀ u ∈ cs.toList, Cell1 u) (H : ∀ h', Sep h0 (Blk b cs t :: F) h' → K h') : sStN h (ptr b 0) (.agg cs) n K := by
  rw [ev_stn_all s.has hs hn h1]; exact H _ (s.upd _)
theorem sep_push (h : Heap) (c : Array Value) (t : TypeId) : Sep h [Blk h.size c t] (h.push (.cells c t)) :=
  ⟨⟨fun i => i = h.size, ⟨fun i => i = h.size, fun _ => False, ⟨fun _ => Iff.rfl, Heap.has_new _ _⟩, fun _ h => h, fun _ _ h => h, fun b => by simp⟩, fun b hb => by omega⟩, (Ext.refl h).push⟩
theorem Sep.new {z : Array Value} {K : Value → Heap → Prop} (s : Sep h0 F h) (H : ∀ b h', Sep h0 (Blk b z t :: F) h' → K (ptr b 0) h') : sNew h z t K := H _ _ (s.add1 (sep_push h z t))
theorem Sep.box {x : Value} {K : Value → Heap → Prop} (s : Sep h0 F h) (hc : x.cells = c) (H : ∀ b h', Sep h0 (Blk b c t :: F) h' → K (ptr b 0) h') : sBox h x t K := by
  subst hc; exact H _ _ (s.add1 (sep_push h _ t))
end

/-! ### Slices -/
theorem own_cell {α : Type} {enc : α → List Value} {sz : Nat} {h : Heap} {k : Option Nat} {v : Value} {l : List α} (o : Own enc sz h k v l) : Cell1 v := by
  rcases o with ⟨_, rfl, _⟩ | ⟨_, _, _, _, _, _, _, rfl, _⟩ <;> trivial
theorem seq_cell {α : Type} {enc : α → List Value} {sz : Nat} {h : Heap} {v : Value} {l : List α} (o : Seq enc sz h v l) : Cell1 v := by
  obtain ⟨_, _, _, rfl, _⟩ := o; trivial
/-- Where element j of a slice lies. -/
def eltP : Value → Nat → Nat → Value
  | .slice (some a) _ _, j, sz => ptr a.block (a.off + j * sz)
  | _, _, _ => undef
/-- A slice of a slice. -/
def cutP : Value → Nat → Nat → Nat → Value
  | .slice a _ c, i, j, sz => cutV a i j c sz
  | v, _, _, _ => v

section
variable {α : Type} {enc : α → List Value} {sz : Nat} {h0 h : Heap} {F : List HP} {v : Value} {l : List α}
theorem Sep.own (s : Sep h0 (Sl enc sz v l :: F) h) : ∃ k, Own enc sz h k v l := let ⟨_, ⟨k, o, _⟩, _⟩ := s.head; ⟨k, o⟩
theorem Sep.seq (s : Sep h0 (Sl enc sz v l :: F) h) : Seq enc sz h v l := let ⟨_, o⟩ := s.own; o.seq
theorem Sep.cell (s : Sep h0 (Sl enc sz v l :: F) h) : Cell1 v := seq_cell s.seq
theorem Seq.elt {K : Value → Prop} (a : Seq enc sz h v l) {j : Nat} (hj : j < l.length) (q : IntKind) : sIxS v (.int q j) sz K = K (eltP v j sz) := by
  obtain ⟨a, n, m, rfl, hn, hm, h2 | ⟨b, o, rfl, hb, hc⟩⟩ := a
  · omega
  · rw [ev_ixs (by omega) (by omega)]; rfl
theorem Seq.elt1 {K : Value → Prop} (a : Seq enc sz h v l) {j i : Nat} {x : α} {u : Value} (hj : l[j]? = some x) (hu : (enc x)[i]? = some u) : ∃ b o, eltP v j sz = ptr b o ∧ sLd h (ptr b (o + i)) K = K u := by
  have hlt := (List.getElem?_eq_some_iff.1 hj).1
  obtain ⟨a, n, m, rfl, hn, hm, h2 | ⟨b, o, rfl, hb, hc⟩⟩ := a
  · omega
  · exact ⟨b, o + j * sz, rfl, (hc j x hj).ld hu⟩
theorem Seq.eltld {K : Value → Prop} (a : Seq enc sz h v l) {j i : Nat} {x : α} {u : Value} (hj : l[j]? = some x) (hu : (enc x)[i]? = some u) : sOff (eltP v j sz) i (fun p => sLd h p K) = K u := by
  obtain ⟨b, o, e, h1⟩ := a.elt1 (K := K) hj hu
  rw [e, ev_off, h1]
theorem Seq.eltld0 {K : Value → Prop} (a : Seq enc sz h v l) {j : Nat} {x : α} {u : Value} (hj : l[j]? = some x) (hu : (enc x)[0]? = some u) : sLd h (eltP v j sz) K = K u := by
  obtain ⟨b, o, e, h1⟩ := a.elt1 (K := K) hj hu
  rw [e]; exact h1
theorem Seq.cutP (a : Seq enc sz h v l) {i j : Nat} (hi : i ≤ j) (hj : j ≤ l.length) : Seq enc sz h (cutP v i j sz) ((l.take j).drop i) := by
  obtain ⟨v', q, H⟩ := a.cut hi hj
  obtain ⟨a, n, m, rfl, hn, hm, hd⟩ := a
  have e : HW.cutP (.slice a n m) i j sz = v' := by
    obtain ⟨_, _, _, _, _, e, h1, h2, _, _, e3⟩ := H (some (.int .i64 i)) (some (.int .i64 j)) (fun x => x = v') ⟨.i64, rfl⟩ ⟨.i64, rfl⟩ rfl
    cases e
    obtain ⟨_, h1⟩ := h1
    obtain ⟨_, h2⟩ := h2
    simp only [Value.int.injEq] at h1 h2
    have e1 := Int.ofNat.inj h1.2
    have e2 := Int.ofNat.inj h2.2
    subst e1 e2
    exact e3
  rw [e]; exact q
theorem Seq.slK {K : Value → Prop} (a : Seq enc sz h v l) {i j : Nat} (hi : i ≤ j) (hj : j ≤ l.length) {lo hi' : Option Value} (h1 : bnd lo 0 i) (h2 : bnd hi' l.length j) (H : K (HW.cutP v i j sz)) : sSl v lo hi' sz K := by
  obtain ⟨a, n, m, rfl, hn, hm, hd⟩ := a
  subst hn
  exact ⟨a, _, m, i, j, rfl, h1, h2, hi, by omega, H⟩
theorem Own.cutP {k : Option Nat} (a : Own enc sz h k v l) {i j : Nat} (hi : i ≤ j) (hj : j ≤ l.length) : Own enc sz h k (HW.cutP v i j sz) ((l.take j).drop i) := by
  obtain ⟨v', q, H⟩ := a.cut hi hj
  obtain ⟨d, n, m, rfl, hn, hm, hd⟩ := a.seq
  have e : HW.cutP (.slice d n m) i j sz = v' := by
    obtain ⟨_, _, _, _, _, e, h1, h2, _, _, e3⟩ := H (some (.int .i64 i)) (some (.int .i64 j)) (fun x => x = v') ⟨.i64, rfl⟩ ⟨.i64, rfl⟩ rfl
    cases e
    obtain ⟨_, h1⟩ := h1
    obtain ⟨_, h2⟩ := h2
    simp only [Value.int.injEq] at h1 h2
    have e1 := Int.ofNat.inj h1.2
    have e2 := Int.ofNat.inj h2.2
    subst e1 e2
    exact e3
  rw [e]; exact q
theorem Sep.cut (s : Sep h0 (Sl enc sz v l :: F) h) {i j : Nat} (hi : i ≤ j) (hj : j ≤ l.length) : Sep h0 (Sl enc sz (HW.cutP v i j sz) ((l.take j).drop i) :: F) h :=
  s.conv fun _ ⟨k, o, x⟩ => ⟨k, o.cutP hi hj, x⟩
theorem sep_nil (s : Sep h0 F h) : Sep h0 (Sl enc sz (.slice none 0 0) [] :: F) h :=
  s.add1 (A := Sl enc sz (.slice none 0 0) []) ⟨⟨fun _ => False, ⟨fun _ => False, fun _ => False, ⟨none, .nil, fun _ => by simp⟩, fun _ h => h, fun _ _ h => h, fun b => by simp⟩, fun _ h => h.elim⟩, Ext.refl h⟩
theorem Sep.app {bytes e : Nat} {z : Array Value} {w : Value} {r : List α} {K : Value → Heap → Prop} (s : Sep h0 (Sl enc sz v l :: F) h) (hz : z.size = sz) (hp : 0 < sz) (hs : ∀ x, (enc x).length = sz) (h1 : ∀ x, ∀ u ∈ enc x, Cell1 u) (q : Seq enc sz h w r)
    (hb : (l.length + r.length) * bytes ≤ 2 ^ 40) (hb0 : 0 < bytes) (H : ∀ v' h', Cell1 v' → Sep h0 (Sl enc sz v' (l ++ r) :: F) h' → K v' h') : sApp h v w z e bytes K := by
  obtain ⟨⟨x, ⟨s1, s2, ⟨k, o, hk⟩, m, d, u⟩, y⟩, ex⟩ := s
  refine app_intro hz hp hs h1 o q hb hb0 (fun k' v' h' o' hk' c => H v' h' (own_cell o') (Sep.step (A := Sl enc sz v l) ⟨⟨x, ⟨s1, s2, ⟨k, o, hk⟩, m, d, u⟩, y⟩, ex⟩ c.size fun t ⟨k2, o2, hk2⟩ => ?_))
  have : k2 = k := by
    rcases o with ⟨rfl, rfl, rfl⟩ | ⟨b, p, n, m, c, t, rfl, rfl, _⟩ <;> rcases o2 with ⟨rfl, e, _⟩ | ⟨b, p, n, m, c, t, rfl, e, _⟩ <;> first | rfl | cases e <;> rfl
  subst this
  refine ⟨⟨fun i => some i = k', ⟨k', o', fun _ => Iff.rfl⟩, fun b hb => ?_⟩, fun i hi hn => c.same i hi fun e => hn ((hk2 i).2 e)⟩
  rcases hk' with e | e
  · exact .inl ((hk2 b).2 (hb.trans e))
  · rw [e] at hb; cases hb; exact .inr (Nat.le_refl _)
/-- Element j of an own slice is set. -/
theorem Own.put {k : Option Nat} (o : Own enc sz h k v l) (hs : ∀ x, (enc x).length = sz) {j : Nat} (hj : j < l.length) (x : α) : ∃ b p c t, k = some b ∧ eltP v j sz = ptr b p ∧ h.has b c t ∧ p + sz ≤ c.size ∧ ∀ h', h'.has b (putRow c p (enc x)) t → Own enc sz h' k v (l.set j x) := by
  rcases o with ⟨rfl, rfl, rfl⟩ | ⟨b, p, n, m, c, t, rfl, rfl, hn, hm, hb, hc, hcc⟩
  · simp at hj
  · have hm1 : (j + 1) * sz ≤ m * sz := Nat.mul_le_mul_right _ (by omega)
    rw [Nat.add_mul, Nat.one_mul] at hm1
    refine ⟨b, p + j * sz, c, t, rfl, rfl, hb, by omega, fun h' hh => .inr ⟨b, p, n, m, _, t, rfl, rfl, by simp [hn], hm, hh, by rw [size_putRow]; exact hc, fun q y hq i u hu => ?_⟩⟩
    have hi : i < sz := by have := (List.getElem?_eq_some_iff.1 hu).1; rw [hs] at this; exact this
    have hq' := (List.getElem?_eq_some_iff.1 hq).1
    simp at hq'
    have hq1 : (q + 1) * sz ≤ m * sz := Nat.mul_le_mul_right _ (by omega)
    rw [Nat.add_mul, Nat.one_mul] at hq1
    by_cases e : q = j
    · subst e
      rw [List.getElem?_set_self hj] at hq
      cases hq
      rw [get_putRow _ _ _ _ (by rw [hs]; exact hi) (by rw [hs]; omega)]; exact hu
    · rw [List.getElem?_set_ne (Ne.symm e)] at hq
      rw [← hcc q y hq i u hu]
      by_cases e2 : q < j
      · have : (q + 1) * sz ≤ j * sz := Nat.mul_le_mul_right _ (by omega)
        rw [Nat.add_mul, Nat.one_mul] at this
        exact get_putRow_lt _ _ _ _ (by omega)
      · have : (j + 1) * sz ≤ q * sz := Nat.mul_le_mul_right _ (by omega)
        rw [Nat.add_mul, Nat.one_mul] at this
        exact get_putRow_ge _ _ _ _ (by rw [hs]; omega)
theorem Sep.setn {K : Heap → Prop} (s : Sep h0 (Sl enc sz v l :: F) h) (hs : ∀ x, (enc x).length = sz) (h1 : ∀ x, ∀ u ∈ enc x, Cell1 u) {j : Nat} (hj : j < l.length) (x : α) (H : ∀ h', Sep h0 (Sl enc sz v (l.set j x) :: F) h' → K h') : sStN h (eltP v j sz) (.agg (enc x).toArray) sz K := by
  obtain ⟨_, ⟨k, o, hk⟩, _⟩ := s.head
  obtain ⟨b, p, c, t, rfl, e, hb, hp, hput⟩ := o.put hs hj x
  rw [e, ev_stn_has hb (by simp [hs]) hp (by simpa using h1 x)]
  refine H _ (s.step (by rw [Heap.size_upd]; exact Nat.le_refl _) fun t' ⟨k2, o2, hk2⟩ => ?_)
  have : k2 = some b := by
    rcases o with ⟨h, _⟩ | ⟨b, p, n, m, c, t, e1, rfl, _⟩
    · cases h
    · rcases o2 with ⟨_, e, _⟩ | ⟨b', p, n, m, c, t, e2, e, _⟩
      · cases e
      · cases e; rw [e2, e1]
  subst this
  refine ⟨⟨t', ⟨some b, hput _ (Heap.has_upd hb.lt _ _), hk2⟩, fun _ => .inl⟩, fun i _ hn => ?_⟩
  unfold Heap.upd
  rw [Array.getElem?_setIfInBounds_ne fun e => hn ((hk2 i).2 (by rw [e]))]
theorem Sep.set1 {u : Value} {K : Heap → Prop} (s : Sep h0 (Sl enc 1 v l :: F) h) (hs : ∀ x, (enc x).length = 1) {j : Nat} (hj : j < l.length) (x : α) (hu : enc x = [u]) (hc : Cell1 u) (H : ∀ h', Sep h0 (Sl enc 1 v (l.set j x) :: F) h' → K h') : sSt h (eltP v j 1) u K := by
  obtain ⟨_, ⟨k, o, hk⟩, _⟩ := s.head
  obtain ⟨b, p, c, t, rfl, e, hb, hp, hput⟩ := o.put hs hj x
  rw [hu] at hput
  rw [e, ev_st_has hb (by omega) hc]
  refine H _ (s.step (by rw [Heap.size_upd]; exact Nat.le_refl _) fun t' ⟨k2, o2, hk2⟩ => ?_)
  have : k2 = some b := by
    rcases o with ⟨h, _⟩ | ⟨b, p, n, m, c, t, e1, rfl, _⟩
    · cases h
    · rcases o2 with ⟨_, e, _⟩ | ⟨b', p, n, m, c, t, e2, e, _⟩
      · cases e
      · cases e; rw [e2, e1]
  subst this
  refine ⟨⟨t', ⟨some b, hput _ (Heap.has_upd hb.lt _ _), hk2⟩, fun _ => .inl⟩, fun i _ hn => ?_⟩
  unfold Heap.upd
  rw [Array.getElem?_setIfInBounds_ne fun e => hn ((hk2 i).2 (by rw [e]))]
theorem sep_own {k : Option Nat} {h' : Heap} (e : Ext h h') (o : Own enc sz h' k v l) (hk : ∀ b, k = some b → h.size ≤ b) : Sep h [Sl enc sz v l] h' :=
  ⟨⟨fun i => some i = k, ⟨_, _, ⟨k, o, fun _ => Iff.rfl⟩, fun _ h => h, fun _ _ h => h, fun b => by simp⟩, fun b hb => hk b hb.symm⟩, e⟩
theorem Sep.slit {z : Array Value} {t n : Nat} {ps : List (Nat × Nat × Value)} {K : Value → Heap → Prop} (s : Sep h0 F h) (hs : ∀ x, (enc x).length = sz) (l : List α) (hn : l.length = n)
    (hf : sFill z ps fun cs => cs = (l.flatMap enc).toArray) (H : ∀ v h', Cell1 v → Sep h0 (Sl enc sz v l :: F) h' → K v h') : sSlit h z ps t n K :=
  slit_intro hs l hn hf fun b v h' hb e o => H v h' (own_cell o) (s.add1 (sep_own e o fun _ e => by cases e; exact hb))
theorem Sep.make {z : Array Value} {e bytes : Nat} {p q : IntKind} {a b : Int} {K : Value → Heap → Prop} (s : Sep h0 F h) (hs : ∀ x, (enc x).length = sz) (x : α) (hz : z = (enc x).toArray) (n m : Nat) (ha : a = n) (hb : b = m) (hnm : n ≤ m) (h1 : bytes * m ≤ 2 ^ 40) (h2 : m ≤ 2 ^ 40)
    (H : ∀ v h', Cell1 v → Sep h0 (Sl enc sz v (List.replicate n x) :: F) h' → K v h') : sMk h (.int p a) (.int q b) z e bytes K := by
  subst ha hb hz
  refine ⟨p, q, n, m, rfl, rfl, by omega, by omega, by exact_mod_cast h1, by exact_mod_cast h2, ?_⟩
  have hc : Builtin.zeroCells (enc x).toArray m = ((List.replicate m x).flatMap enc).toArray := by
    have hx := hs x
    apply Array.ext_getElem?
    intro i
    have hfl : ((List.replicate m x).flatMap enc).length = m * sz := by rw [length_flat hs, List.length_replicate]
    by_cases hi : i < m * sz
    · have hz : 0 < sz := by rcases Nat.eq_zero_or_pos sz with e | e; (subst e; simp at hi); exact e
      have hj : i / sz < m := (Nat.div_lt_iff_lt_mul hz).2 hi
      have hm : i % sz < sz := Nat.mod_lt _ hz
      have g := get_flat hs (List.replicate m x) (i / sz) (i % sz) x (by simp [hj]) hm
      rw [show i / sz * sz + i % sz = i by rw [Nat.mul_comm]; exact Nat.div_add_mod i sz] at g
      have e2 : ((List.replicate m x).flatMap enc).toArray[i]? = (enc x)[i % sz]? := by rw [List.getElem?_toArray]; exact g
      rw [e2]
      simp [Builtin.zeroCells, hx, hi, hm]
    · rw [Array.getElem?_eq_none (by simp [Builtin.zeroCells, hx]; omega), Array.getElem?_eq_none (by simp [length_flat hs]; omega)]
  have o : Own enc sz (h.push (.cells ((List.replicate m x).flatMap enc).toArray e)) (some h.size) (.slice (some ⟨h.size, 0, none⟩) n m) (List.replicate n x) := by
    refine .inr ⟨h.size, 0, n, m, _, e, rfl, rfl, by simp, hnm, Heap.has_new _ _, by simp [length_flat hs], fun j y hj i u hu => ?_⟩
    have hi : i < sz := by have := (List.getElem?_eq_some_iff.1 hu).1; rw [hs] at this; exact this
    have hj' := (List.getElem?_eq_some_iff.1 hj).1
    simp at hj'
    have : y = x := by rw [List.getElem?_replicate, if_pos hj'] at hj; cases hj; rfl
    subst this
    have g := get_flat hs (List.replicate m y) j i y (by rw [List.getElem?_replicate, if_pos (by omega)]) hi
    rw [hu] at g
    simpa using g
  rw [show (Builtin.zeroCells (enc x).toArray (m : Int).toNat) = _ from hc, Int.toNat_natCast, Int.toNat_natCast]
  exact H _ _ trivial (s.add1 (sep_own (Ext.refl h).push o fun _ e => by cases e; exact Nat.le_refl _))
end

/-! ### What a frame lets be read -/
section
variable {α : Type} {enc : α → List Value} {sz : Nat} {h0 h : Heap} {A B C D : HP} {F : List HP} {v : Value} {l : List α}
def Rd (enc : α → List Value) (sz : Nat) (h0 : Heap) (F : List HP) (v : Value) (l : List α) : Prop := ∀ L h, Sep h0 (L ++ F) h → Seq enc sz h v l
theorem Rd.base (a : Seq enc sz h0 v l) : Rd enc sz h0 F v l := fun _ _ s => a.ext s.ext
theorem Rd.weak (r : Rd enc sz h0 F v l) : Rd enc sz h0 (A :: F) v l := fun L h s => r (L ++ [A]) h (by rw [List.append_assoc]; exact s)
theorem Rd.own0 : Rd enc sz h0 (Sl enc sz v l :: F) v l := fun L h s => (s.perm (List.perm_middle)).seq
theorem Rd.own1 : Rd enc sz h0 (A :: Sl enc sz v l :: F) v l := Rd.own0.weak
theorem Rd.cut (r : Rd enc sz h0 F v l) {i j : Nat} (hi : i ≤ j) (hj : j ≤ l.length) : Rd enc sz h0 F (HW.cutP v i j sz) ((l.take j).drop i) := fun L h s => (r L h s).cutP hi hj
theorem Rd.at0 (r : Rd enc sz h0 F v l) (s : Sep h0 F h) : Seq enc sz h v l := r [] h s
theorem Rd.at1 (r : Rd enc sz h0 F v l) (s : Sep h0 (A :: F) h) : Seq enc sz h v l := r [_] h s
end
end Go.HW

end

section
/- []byte("..") of a constant: the row is marked behind its last cell. -/
namespace Go.HW
open Go
section
variable {P : Program} {ρ : Operand → Value}
variable {dst : Option Tmp} {tp : TypeId} {pos : String} {after : Array Edge} {g : Option (Nat × Bool)}
end
section
variable {α : Type} {enc : α → List Value} {sz : Nat} {h0 h : Heap} {F : List HP} {v : Value} {l : List α}
end
end Go.HW

end

section
/- append(append([]T{}, l...), r, ..): in whatever order the slices are made. -/
namespace Go.HW
open Go

section
variable {α : Type} {enc : α → List Value} {sz : Nat} {h0 h : Heap} {F : List HP} {x0 : Value} {l rs : List α} {z zs : Array Value} {ps : List (Nat × Nat × Value)} {t bytes n : Nat} {K : Value → Heap → Prop}

end
end Go.HW
namespace Go.HW
open Go
section
variable {α : Type} {enc : α → List Value} {sz : Nat} {h0 : Heap} {C : Heap → Prop} {v : Value} {l : List α}
/-- Elements read while the heap is left open. -/
theorem Seq.ldC {j : Nat} {x : α} {u : Value} {q : IntKind} {K : Value → Prop} (hC : C h0) (hs : ∀ h, C h → Seq enc sz h v l) (hj : l[j]? = some x) (hu : enc x = [u]) : sIxS v (.int q j) sz (fun p => sLdC C p K) = K u := by
  have s0 := hs h0 hC
  have hlt := (List.getElem?_eq_some_iff.1 hj).1
  rw [s0.elt hlt]
  obtain ⟨b, o, e, _⟩ := s0.elt1 (K := K) (i := 0) (u := u) hj (by rw [hu]; rfl)
  rw [e]
  refine ldc_at (h0 := h0) hC fun h hh => ?_
  obtain ⟨b', o', e', h1⟩ := (hs h hh).elt1 (K := fun y => y = u) (i := 0) (u := u) hj (by rw [hu]; rfl)
  rw [e] at e'
  cases e'
  rw [ev_ld] at h1
  cases hx : h.at b (o + 0) with
  | none => rw [hx] at h1; exact (h1.mpr rfl).elim
  | some y => rw [hx] at h1; have : y = u := h1.mpr rfl; subst this; rfl
end
end Go.HW

end

section
/- append(x, make([]T, n)...): zero cells behind a slice. -/
set_option linter.unusedSimpArgs false
namespace Go.HW
open Go
section
variable {P : Program} {ρ : Operand → Value}
variable {dst : Option Tmp} {tp : TypeId} {pos : String} {after : Array Edge} {g : Option (Nat × Bool)}
end
section
variable {α : Type} {enc : α → List Value} {sz : Nat} {h0 h : Heap} {F : List HP} {v : Value} {l : List α}
end
end Go.HW

end

section
/- Arguments of any shape: numbers, bools, slices, structs and arrays, one in another. -/
namespace Go.HW
open Go

inductive Shape where
  | int (k : IntKind)
  | bool
  | slice (s : Shape)
  | agg (r : Shape)
  | nil
  | cons (s r : Shape)

def Shape.size : Shape → Nat
  | .int _ | .bool | .slice _ => 1
  | .agg r => r.size
  | .nil => 0
  | .cons s r => s.size + r.size

/-- What cells of a shape bear. -/
def Rep : Shape → Heap → List Value → Prop
  | .int k, _, cs => ∃ n, cs = [.int k n] ∧ (Lit.int k n).wf = true
  | .bool, _, cs => ∃ b, cs = [.bool b]
  | .slice s, h, cs => ∃ (v : Value) (rows : List {r : List Value // r.length = s.size}), cs = [v] ∧ Seq Subtype.val s.size h v rows ∧ rows.length ≤ maxLen ∧ ∀ r ∈ rows, Rep s h r.1
  | .agg r, h, cs => Rep r h cs
  | .nil, _, cs => cs = []
  | .cons s r, h, cs => ∃ a b, cs = a ++ b ∧ Rep s h a ∧ Rep r h b

mutual
def isT (P : Program) : Shape → TypeId → Bool
  | .int k, t => match P.underlying t with
    | some (.int k') => k == k'
    | _ => false
  | .bool, t => match P.underlying t with
    | some .bool => true
    | _ => false
  | .slice s, t => match P.underlying t with
    | some (.slice e) => P.cellsOf e == s.size && decide (0 < s.size) && isT P s e
    | _ => false
  | .agg r, t => P.cellsOf t == r.size && match P.underlying t with
    | some (.struct fs) => isR P r (fs.toList.map fun f => (f.offset, f.type)) 0
    | some (.array n e) => isR P r ((List.range n).map fun i => (i * P.cellsOf e, e)) 0
    | _ => false
  | _, _ => false
def isR (P : Program) : Shape → List (Nat × TypeId) → Nat → Bool
  | .nil, [], _ => true
  | .cons s r, (o, t) :: l, off => o == off && P.cellsOf t == s.size && isT P s t && isR P r l (off + s.size)
  | _, _, _ => false
end

section
variable {H : Type} {en : TypeId × Value → H} {P : Program} {w : World} {base : Nat} {held : Bool}
def TT (en : TypeId × Value → H) (P : Program) (w : World) (base : Nat) (held : Bool) (s : Shape) : Prop :=
  (∀ t, isT P s t = true → ∀ (n : Nat) (cs : List Value) (x : DataW H × List MemPlace), cs.length = s.size → DataW.trod en P w base (fun _ => true) held n t cs = some x → Rep s w.heap cs) ∧
  (∀ l off (cs : List Value), isR P s l off = true → cs.length = off + s.size → (∀ p ∈ l, ∃ n x, DataW.trod en P w base (fun _ => true) held n p.2 ((cs.drop p.1).take (P.cellsOf p.2)) = some x) → Rep s w.heap (cs.drop off))

theorem tt (en : TypeId × Value → H) (P : Program) (w : World) (base : Nat) (held : Bool) : ∀ s : Shape, TT en P w base held s
  | .int k => by
    refine ⟨fun t ht n cs x _ h => ?_, fun l off cs h _ _ => by unfold isR at h; cases h⟩
    unfold isT at ht
    split at ht
    · rename_i k' hu
      obtain rfl : k = k' := by simpa using ht
      obtain ⟨m, e, _, hw⟩ := DataW.trod_int hu h
      exact ⟨m, e, hw⟩
    · cases ht
  | .bool => by
    refine ⟨fun t ht n cs x _ h => ?_, fun l off cs h _ _ => by unfold isR at h; cases h⟩
    unfold isT at ht
    split at ht
    · rename_i hu
      obtain ⟨m, e, _⟩ := DataW.trod_bool hu h
      exact ⟨m, e⟩
    · cases ht
  | .slice s => by
    refine ⟨fun t ht n cs x _ h => ?_, fun l off cs h _ _ => by unfold isR at h; cases h⟩
    unfold isT at ht
    split at ht
    · rename_i e hu
      simp only [Bool.and_eq_true, beq_iff_eq, decide_eq_true_eq] at ht
      obtain ⟨⟨hc, hp⟩, hs⟩ := ht
      have ih := (tt en P w base held s).1 e hs
      have : Inhabited {r : List Value // r.length = s.size} := ⟨⟨List.replicate s.size undef, by simp⟩⟩
      have key : ∀ a len cap, cs = [.slice a len cap] → Rep (.slice s) w.heap cs := fun a len cap e0 => by
        subst e0
        obtain ⟨l, hq, hl, hg⟩ := open_seq (α := {r : List Value // r.length = s.size}) (enc := Subtype.val) (good := fun r => Rep s w.heap r.1) hu hc hp (fun x => x.2) (fun m cs x hlen hx => ⟨⟨cs, hlen⟩, rfl, ih m cs x hlen hx⟩) (a := a) (len := len) (cap := cap) (by simpa [Value.cells] using h)
        exact ⟨_, l, rfl, hq, hl, hg⟩
      rcases Deep.open_slice hu h with ⟨e0, _⟩ | ⟨a, len, cap, _, _, _, _, e0, _⟩
      · exact key _ _ _ e0
      · exact key _ _ _ e0
    · cases ht
  | .agg r => by
    refine ⟨fun t ht n cs x hl h => ?_, fun l off cs h _ _ => by unfold isR at h; cases h⟩
    unfold isT at ht
    simp only [Bool.and_eq_true, beq_iff_eq] at ht
    obtain ⟨hc, ht⟩ := ht
    have ih := (tt en P w base held r).2
    split at ht
    · rename_i fs hu
      obtain ⟨xs, m, _, _, _, hlen, hf⟩ := DataW.trod_struct hu h
      have := ih _ 0 cs ht (by rw [hl]; simp [Shape.size]) (fun p hp => by
        obtain ⟨f, hf1, rfl⟩ := List.mem_map.1 hp
        obtain ⟨i, hi, rfl⟩ := List.getElem_of_mem hf1
        have hi' : i < fs.size := by simpa using hi
        have := hf i fs[i] (by simp [hi'])
        refine ⟨m, xs[i]'(by omega), ?_⟩
        simp only [Array.getElem_toList]
        rw [this]; simp [hlen, hi'])
      simpa [Rep] using this
    · rename_i k e hu
      obtain ⟨xs, m, _, _, _, hlen, hf⟩ := DataW.trod_array hu h
      have := ih _ 0 cs ht (by rw [hl]; simp [Shape.size]) (fun p hp => by
        obtain ⟨i, hi, rfl⟩ := List.mem_map.1 hp
        have hi' : i < k := List.mem_range.1 hi
        refine ⟨m, xs[i]'(by omega), ?_⟩
        simp only
        rw [hf i hi']; simp [hlen, hi'])
      simpa [Rep] using this
    · cases ht
  | .nil => by
    refine ⟨fun t ht => (by unfold isT at ht; cases ht), fun l off cs h hl _ => ?_⟩
    have : cs.drop off = [] := List.drop_eq_nil_of_le (by simp [Shape.size] at hl; omega)
    exact this
  | .cons s r => by
    refine ⟨fun t ht => (by unfold isT at ht; cases ht), fun l off cs h hl hp => ?_⟩
    cases l with
    | nil => unfold isR at h; cases h
    | cons p l =>
      obtain ⟨o, t⟩ := p
      unfold isR at h
      simp only [Bool.and_eq_true, beq_iff_eq] at h
      obtain ⟨⟨⟨rfl, hc⟩, hs⟩, hr⟩ := h
      obtain ⟨n, x, hx⟩ := hp (o, t) List.mem_cons_self
      simp only [Shape.size] at hl
      rw [hc] at hx
      have h1 := (tt en P w base held s).1 t hs n _ x (by rw [List.length_take, List.length_drop]; omega) hx
      have h2 := (tt en P w base held r).2 l (o + s.size) cs hr (by omega) (fun p hp' => hp p (List.mem_cons_of_mem _ hp'))
      refine ⟨(cs.drop o).take s.size, cs.drop (o + s.size), ?_, h1, h2⟩
      rw [← List.drop_drop, List.take_append_drop]

/-- An argument that is no struct. -/
theorem rep_cell {s : Shape} {t : TypeId} {v : Value} {d : DataW H} {p : List MemPlace} (ht : isT P s t = true) (hc : v.cells.toList.length = s.size) (h : DataW.Trod en P w base (fun _ => true) held t v d p) : Rep s w.heap v.cells.toList := by
  obtain ⟨n, h⟩ := h
  exact (tt en P w base held s).1 t ht n _ _ hc h
theorem rep_slice {s : Shape} {t : TypeId} {r : Reach} {b0 : Nat} {v : Value} {d : DataW H} {p : List MemPlace} (ht : isT P (.slice s) t = true) (hv : Value.okWide P w r b0 t v) (h : DataW.Trod en P w base (fun _ => true) held t v d p) : Rep (.slice s) w.heap [v] := by
  have hu : ∃ e, P.underlying t = some (.slice e) := by
    unfold isT at ht
    split at ht
    · rename_i e hu; exact ⟨e, hu⟩
    · cases ht
  obtain ⟨e, hu⟩ := hu
  obtain ⟨a, len, cap, rfl⟩ := WideShapes.okWide_slice hu hv
  have := rep_cell ht (by simp [Value.cells, Shape.size]) h
  simpa [Value.cells] using this
/-- The elements of a slice, by a type of one's own. -/
theorem Rep.rows {α : Type} {enc : α → List Value} {good : α → Prop} {s : Shape} {h : Heap} {v : Value} (x : Rep (.slice s) h [v]) (he : ∀ r : List Value, r.length = s.size → Rep s h r → ∃ y : α, r = enc y ∧ good y) :
    ∃ l : List α, Seq enc s.size h v l ∧ l.length ≤ maxLen ∧ ∀ y ∈ l, good y := by
  obtain ⟨v', rows, e, hq, hl, hr⟩ := x
  cases e
  have : ∀ rows : List {r : List Value // r.length = s.size}, (∀ r ∈ rows, Rep s h r.1) → ∃ l : List α, rows.map Subtype.val = l.map enc ∧ ∀ y ∈ l, good y := by
    intro rows
    induction rows with
    | nil => exact fun _ => ⟨[], rfl, by simp⟩
    | cons r rows ih =>
      intro hr
      obtain ⟨y, e, hy⟩ := he r.1 r.2 (hr r List.mem_cons_self)
      obtain ⟨l, e2, hl⟩ := ih fun r hr' => hr r (List.mem_cons_of_mem _ hr')
      refine ⟨y :: l, by rw [List.map_cons, List.map_cons, e, e2], fun z hz => ?_⟩
      rcases List.mem_cons.1 hz with rfl | hz
      · exact hy
      · exact hl z hz
  obtain ⟨l, e, hg⟩ := this rows hr
  have hlen : l.length = rows.length := by have := congrArg List.length e; simpa using this.symm
  refine ⟨l, ?_, by omega, hg⟩
  obtain ⟨a, n, m, rfl, hn, hm, hd⟩ := hq
  refine ⟨a, n, m, rfl, by omega, hm, ?_⟩
  rcases hd with hd | ⟨b, o, rfl, hb, hc⟩
  · exact .inl hd
  · refine .inr ⟨b, o, rfl, hb, fun j x hj => ?_⟩
    have hj' := (List.getElem?_eq_some_iff.1 hj).1
    have : (rows.map Subtype.val)[j]? = (l.map enc)[j]? := by rw [e]
    rw [List.getElem?_map, List.getElem?_map, hj, List.getElem?_eq_getElem (by omega)] at this
    simp only [Option.map_some, Option.some.injEq] at this
    have := hc j (rows[j]'(by omega)) (List.getElem?_eq_getElem (by omega))
    simp_all
end
end Go.HW

end

section
/- Bits of whole numbers. -/
namespace Go.HW
open Go

/-- What filling comes to, for the kernel. -/
def fillR : Array Value → List (Nat × Nat × Value) → Option (Array Value)
  | cs, [] => some cs
  | cs, (o, n, v) :: r => if v.cells.size = n ∧ o + n ≤ cs.size then fillR (putRow cs o v.cells.toList) r else none
theorem fill_k : ∀ {ps : List (Nat × Nat × Value)} {z cs : Array Value}, fillR z ps = some cs → sFill z ps fun d => d = cs
  | [], z, cs, h => by simp [fillR] at h; exact h
  | (o, n, v) :: r, z, cs, h => by
    unfold fillR at h
    split at h
    · rename_i hc; exact ⟨hc.1, hc.2, fill_k h⟩
    · cases h

end Go.HW

end

section
/- copy into a part of a slice of one's own. -/
namespace Go.HW
open Go

section
variable {α : Type} {enc : α → List Value} {sz : Nat} {h0 h : Heap} {F : List HP} {v : Value} {l : List α}
/-- Elements set from a place on. -/
def setAll (l : List α) (p : Nat) : List α → List α
  | [] => l
  | s :: r => setAll (l.set p s) (p + 1) r
theorem setAll_len : ∀ (src : List α) (l : List α) (p : Nat), (setAll l p src).length = l.length
  | [], _, _ => rfl
  | s :: r, l, p => by rw [setAll, setAll_len r]; simp
theorem puts_app : ∀ (a b : List Value) (h : Heap) (k o : Nat), h.puts k o (a ++ b) = (h.puts k o a).puts k (o + a.length) b
  | [], b, h, k, o => rfl
  | x :: a, b, h, k, o => by
    show (h.put k o x).puts k (o + 1) (a ++ b) = ((h.put k o x).puts k (o + 1) a).puts k (o + (a.length + 1)) b
    rw [puts_app a b]; congr 1; omega
theorem eltP_next {j : Nat} {b o : Nat} (e : eltP v j sz = ptr b o) : eltP v (j + 1) sz = ptr b (o + sz) := by
  unfold eltP at *
  split at e
  · rename_i a n c
    have e1 : a.block = b ∧ a.off + j * sz = o := by
      unfold ptr at e
      simp only [Value.pointer.injEq, Option.some.injEq, Addr.mk.injEq] at e
      exact ⟨e.1, e.2.1⟩
    show ptr a.block (a.off + (j + 1) * sz) = ptr b (o + sz)
    rw [e1.1, ← e1.2, Nat.add_mul, Nat.one_mul, Nat.add_assoc]
  · unfold ptr undef at e; cases e
theorem Sep.puts' (hs : ∀ x, (enc x).length = sz) (h1 : ∀ x, ∀ u ∈ enc x, Cell1 u) : ∀ (src : List α) (h : Heap) (l : List α) (p b o : Nat), Sep h0 (Sl enc sz v l :: F) h → p + src.length ≤ l.length → (src ≠ [] → eltP v p sz = ptr b o) → Sep h0 (Sl enc sz v (setAll l p src) :: F) (h.puts b o (src.flatMap enc))
  | [], h, l, p, b, o, s, _, _ => s
  | x :: r, h, l, p, b, o, s, hp, he => by
    have e := he (by simp)
    simp only [List.length_cons] at hp
    have k := s.setn hs h1 (j := p) (by omega) x (K := fun h' => Sep h0 (Sl enc sz v (l.set p x) :: F) h') (fun h' s' => s')
    obtain ⟨b', o', cs, e1, e2, _, _, _, k⟩ := k
    rw [e] at e1
    cases e1
    cases e2
    have k : Sep h0 (Sl enc sz v (l.set p x) :: F) (h.puts b o (enc x)) := by simpa using k
    rw [List.flatMap_cons, puts_app, hs]
    show Sep h0 (Sl enc sz v (setAll (l.set p x) (p + 1) r) :: F) _
    exact Sep.puts' hs h1 r _ _ (p + 1) b (o + sz) k (by simp; omega) (fun _ => eltP_next e)
theorem Sep.copy {y : Value} {src : List α} {i j : Nat} {K : Value → Heap → Prop} (s : Sep h0 (Sl enc sz v l :: F) h) (hs : ∀ x, (enc x).length = sz) (h1 : ∀ x, ∀ u ∈ enc x, Cell1 u) (q : Seq enc sz h y src) (h0' : 0 < src.length) (hij : i + src.length ≤ j) (hj : j ≤ l.length) (H : ∀ h', Sep h0 (Sl enc sz v (setAll l i src) :: F) h' → K (.int .i64 src.length) h') : sCopy h (cutP v i j sz) y sz K := by
  obtain ⟨k, o⟩ := s.own
  rcases o with ⟨_, _, rfl⟩ | ⟨b, p, n, m, c, t, _, rfl, hn, hm, hb, hc, hcc⟩
  · simp at hj; omega
  · have hmin : min src.length (j - i) = src.length := by omega
    have hbase : cutP (.slice (some ⟨b, p, none⟩) n m) i j sz = .slice (some ⟨b, p + i * sz, none⟩) (j - i) (m - i) := by
      simp only [cutP, cutV]
      rw [if_neg (show ¬ m = i by omega)]
      simp only [Option.map_some, Addr.add]
      split
      · rename_i h0; rw [h0]; rfl
      · rfl
    rw [hbase]
    have hsz : (src.flatMap enc).length = src.length * sz := length_flat hs src
    refine ⟨_, j - i, _, src.length, (src.flatMap enc).toArray, rfl, q.lenV, ?_, ?_, ?_, ?_⟩
    · rw [hmin]; exact q.rowOf hs
    · rw [hmin]; simpa using hsz
    · intro u hu
      simp only [List.mem_flatMap] at hu
      obtain ⟨x, _, hx⟩ := hu
      exact h1 x u hx
    · rw [hmin]
      have hle : (i + src.length) * sz ≤ m * sz := Nat.mul_le_mul_right _ (by omega)
      rw [Nat.add_mul] at hle
      refine .inr ⟨b, p + i * sz, rfl, hb.fits (by omega), ?_⟩
      refine H _ ?_
      have := Sep.puts' hs h1 src h l i b (p + i * sz) s (by omega) (fun _ => rfl)
      exact this
end
end Go.HW

end


end

section
/- Equality of this seat's structs. Written by a program. -/
set_option linter.unusedSimpArgs false
namespace Go.Proofs.YtmhhjpfkipficaaDoor
open Go Go.HW
theorem eqT_38 : EqT Tryd.prog 38 [some .i64, some .i64, none] := by
  refine ⟨Tryd.eqGuardType38, fun w xs ys hx hy => ?_⟩
  obtain ⟨l⟩ := xs
  obtain ⟨l'⟩ := ys
  simp only at hx hy ⊢
  obtain ⟨a0, al0, rfl, hx0⟩ := okC_i hx
  obtain ⟨a1, al1, rfl, hx1⟩ := okC_i hx0
  obtain ⟨a2, al2, rfl, hx2⟩ := okC_b hx1
  obtain rfl := okC_n hx2
  obtain ⟨b0, bl0, rfl, hy0⟩ := okC_i hy
  obtain ⟨b1, bl1, rfl, hy1⟩ := okC_i hy0
  obtain ⟨b2, bl2, rfl, hy2⟩ := okC_b hy1
  obtain rfl := okC_n hy2
  clear hx hy hx0 hy0 hx1 hy1 hx2 hy2
  first | (simp [go_sem, Tryd.underlying3, Tryd.underlying4, Tryd.underlying38, Op.eqItems, List.range, List.range.loop, ite_ok, ite_okb, ite_ok2, eqVs, eqV, Bool.and_assoc]; done) | (simp [go_sem, Tryd.underlying3, Tryd.underlying4, Tryd.underlying38, Op.eqItems, List.range, List.range.loop, ite_ok, ite_okb, ite_ok2, eqVs, eqV, Bool.and_assoc] <;> (repeat' split) <;> simp_all)
end Go.Proofs.YtmhhjpfkipficaaDoor


end

section
/- The calls of this seat's functions, by name. -/
namespace Go.Proofs.YtmhhjpfkipficaaDoor
open Go Go.HW
def betonylaw24_ScreenWhole_c (x0 x1 x2 : Value) (h : Heap) (R : Value → Heap → Prop) : Prop := Runs Tryd.prog 5 #[x0, x1, x2] h (ret R)
def screen_New_c (x0 x1 : Value) (h : Heap) (R : Value → Heap → Prop) : Prop := Runs Tryd.prog 8 #[x0, x1] h (ret R)
def screen_Screen_Put_c (x0 x1 : Value) (h : Heap) (R : Value → Heap → Prop) : Prop := Runs Tryd.prog 9 #[x0, x1] h (ret R)
def screen_Screen_At_c (x0 x1 x2 : Value) (h : Heap) (R : Value → Heap → Prop) : Prop := Runs Tryd.prog 11 #[x0, x1, x2] h (ret R)
def betonylaw24_awake_c (h : Heap) (R : Value → Heap → Prop) : Prop := Runs Tryd.prog 12 #[] h (ret R)
def screen_Screen_Move_c (x0 x1 x2 : Value) (h : Heap) (R : Value → Heap → Prop) : Prop := Runs Tryd.prog 13 #[x0, x1, x2] h (ret R)
def screen_Screen_Cursor_c (x0 : Value) (h : Heap) (R : Value → Heap → Prop) : Prop := Runs Tryd.prog 14 #[x0] h (ret R)
def screen_Screen_Shift_c (x0 x1 x2 : Value) (h : Heap) (R : Value → Heap → Prop) : Prop := Runs Tryd.prog 15 #[x0, x1, x2] h (ret R)
def betonylaw24_great_c (x0 : Value) (h : Heap) (R : Value → Heap → Prop) : Prop := Runs Tryd.prog 16 #[x0] h (ret R)
def betonyref24_New_c (x0 x1 : Value) (h : Heap) (R : Value → Heap → Prop) : Prop := Runs Tryd.prog 17 #[x0, x1] h (ret R)
def betonylaw24_Do_c (x0 x1 x2 : Value) (h : Heap) (R : Value → Heap → Prop) : Prop := Runs Tryd.prog 18 #[x0, x1, x2] h (ret R)
def screen_Screen_Size_c (x0 : Value) (h : Heap) (R : Value → Heap → Prop) : Prop := Runs Tryd.prog 19 #[x0] h (ret R)
def betonyref03_Width_c (x0 : Value) (h : Heap) (R : Value → Heap → Prop) : Prop := Runs Tryd.prog 20 #[x0] h (ret R)
def screen_Screen_SetPen_c (x0 x1 : Value) (h : Heap) (R : Value → Heap → Prop) : Prop := Runs Tryd.prog 22 #[x0, x1] h (ret R)
def screen_Screen_Erase_c (x0 x1 : Value) (h : Heap) (R : Value → Heap → Prop) : Prop := Runs Tryd.prog 24 #[x0, x1] h (ret R)
def grid_Grid_At_c (x0 x1 x2 : Value) (h : Heap) (R : Value → Heap → Prop) : Prop := Runs Tryd.prog 25 #[x0, x1, x2] h (ret R)
def screen_Screen_Scroll_c (x0 x1 : Value) (h : Heap) (R : Value → Heap → Prop) : Prop := Runs Tryd.prog 26 #[x0, x1] h (ret R)
def grid_New_c (x0 x1 : Value) (h : Heap) (R : Value → Heap → Prop) : Prop := Runs Tryd.prog 27 #[x0, x1] h (ret R)
def screen_isStop_c (x0 : Value) (h : Heap) (R : Value → Heap → Prop) : Prop := Runs Tryd.prog 28 #[x0] h (ret R)
def wide_Width_c (x0 : Value) (h : Heap) (R : Value → Heap → Prop) : Prop := Runs Tryd.prog 29 #[x0] h (ret R)
def screen_Screen_cur_c (x0 : Value) (h : Heap) (R : Value → Heap → Prop) : Prop := Runs Tryd.prog 30 #[x0] h (ret R)
def screen_Screen_wrapped_c (x0 : Value) (h : Heap) (R : Value → Heap → Prop) : Prop := Runs Tryd.prog 31 #[x0] h (ret R)
def screen_Screen_Cells_c (x0 x1 x2 : Value) (h : Heap) (R : Value → Heap → Prop) : Prop := Runs Tryd.prog 32 #[x0, x1, x2] h (ret R)
def grid_Grid_Set_c (x0 x1 x2 x3 : Value) (h : Heap) (R : Value → Heap → Prop) : Prop := Runs Tryd.prog 33 #[x0, x1, x2, x3] h (ret R)
def screen_Screen_part_c (x0 x1 x2 x3 : Value) (h : Heap) (R : Value → Heap → Prop) : Prop := Runs Tryd.prog 34 #[x0, x1, x2, x3] h (ret R)
def screen_within_c (x0 x1 x2 : Value) (h : Heap) (R : Value → Heap → Prop) : Prop := Runs Tryd.prog 35 #[x0, x1, x2] h (ret R)
def screen_add_c (x0 x1 x2 : Value) (h : Heap) (R : Value → Heap → Prop) : Prop := Runs Tryd.prog 36 #[x0, x1, x2] h (ret R)
def betonyref24_Screen_Put_c (x0 x1 : Value) (h : Heap) (R : Value → Heap → Prop) : Prop := Runs Tryd.prog 37 #[x0, x1] h (ret R)
def screen_Screen_Line_c (x0 : Value) (h : Heap) (R : Value → Heap → Prop) : Prop := Runs Tryd.prog 38 #[x0] h (ret R)
def betonyref24_Screen_Line_c (x0 : Value) (h : Heap) (R : Value → Heap → Prop) : Prop := Runs Tryd.prog 39 #[x0] h (ret R)
def screen_Screen_Back_c (x0 : Value) (h : Heap) (R : Value → Heap → Prop) : Prop := Runs Tryd.prog 40 #[x0] h (ret R)
def betonyref24_Screen_Back_c (x0 : Value) (h : Heap) (R : Value → Heap → Prop) : Prop := Runs Tryd.prog 41 #[x0] h (ret R)
def betonyref24_Screen_Move_c (x0 x1 x2 : Value) (h : Heap) (R : Value → Heap → Prop) : Prop := Runs Tryd.prog 42 #[x0, x1, x2] h (ret R)
def betonyref24_Screen_Shift_c (x0 x1 x2 : Value) (h : Heap) (R : Value → Heap → Prop) : Prop := Runs Tryd.prog 43 #[x0, x1, x2] h (ret R)
def screen_Screen_Tab_c (x0 x1 : Value) (h : Heap) (R : Value → Heap → Prop) : Prop := Runs Tryd.prog 44 #[x0, x1] h (ret R)
def betonyref24_Screen_Tab_c (x0 x1 : Value) (h : Heap) (R : Value → Heap → Prop) : Prop := Runs Tryd.prog 45 #[x0, x1] h (ret R)
def screen_Screen_TabSet_c (x0 : Value) (h : Heap) (R : Value → Heap → Prop) : Prop := Runs Tryd.prog 46 #[x0] h (ret R)
def betonyref24_Screen_TabSet_c (x0 : Value) (h : Heap) (R : Value → Heap → Prop) : Prop := Runs Tryd.prog 47 #[x0] h (ret R)
def screen_Screen_TabClear_c (x0 x1 : Value) (h : Heap) (R : Value → Heap → Prop) : Prop := Runs Tryd.prog 48 #[x0, x1] h (ret R)
def betonyref24_Screen_TabClear_c (x0 x1 : Value) (h : Heap) (R : Value → Heap → Prop) : Prop := Runs Tryd.prog 49 #[x0, x1] h (ret R)
def betonyref24_Screen_Erase_c (x0 x1 : Value) (h : Heap) (R : Value → Heap → Prop) : Prop := Runs Tryd.prog 50 #[x0, x1] h (ret R)
def screen_Screen_EraseLine_c (x0 x1 : Value) (h : Heap) (R : Value → Heap → Prop) : Prop := Runs Tryd.prog 51 #[x0, x1] h (ret R)
def betonyref24_Screen_EraseLine_c (x0 x1 : Value) (h : Heap) (R : Value → Heap → Prop) : Prop := Runs Tryd.prog 52 #[x0, x1] h (ret R)
def betonyref24_Screen_Cells_c (x0 x1 x2 : Value) (h : Heap) (R : Value → Heap → Prop) : Prop := Runs Tryd.prog 53 #[x0, x1, x2] h (ret R)
def screen_Screen_Lines_c (x0 x1 x2 : Value) (h : Heap) (R : Value → Heap → Prop) : Prop := Runs Tryd.prog 54 #[x0, x1, x2] h (ret R)
def betonyref24_Screen_Lines_c (x0 x1 x2 : Value) (h : Heap) (R : Value → Heap → Prop) : Prop := Runs Tryd.prog 55 #[x0, x1, x2] h (ret R)
def betonyref24_Screen_Scroll_c (x0 x1 : Value) (h : Heap) (R : Value → Heap → Prop) : Prop := Runs Tryd.prog 56 #[x0, x1] h (ret R)
def screen_Screen_Margins_c (x0 x1 x2 : Value) (h : Heap) (R : Value → Heap → Prop) : Prop := Runs Tryd.prog 57 #[x0, x1, x2] h (ret R)
def betonyref24_Screen_Margins_c (x0 x1 x2 : Value) (h : Heap) (R : Value → Heap → Prop) : Prop := Runs Tryd.prog 58 #[x0, x1, x2] h (ret R)
def screen_Screen_Mode_c (x0 x1 x2 : Value) (h : Heap) (R : Value → Heap → Prop) : Prop := Runs Tryd.prog 59 #[x0, x1, x2] h (ret R)
def betonyref24_Screen_Mode_c (x0 x1 x2 : Value) (h : Heap) (R : Value → Heap → Prop) : Prop := Runs Tryd.prog 60 #[x0, x1, x2] h (ret R)
def screen_Screen_Save_c (x0 : Value) (h : Heap) (R : Value → Heap → Prop) : Prop := Runs Tryd.prog 61 #[x0] h (ret R)
def betonyref24_Screen_Save_c (x0 : Value) (h : Heap) (R : Value → Heap → Prop) : Prop := Runs Tryd.prog 62 #[x0] h (ret R)
def screen_Screen_Restore_c (x0 : Value) (h : Heap) (R : Value → Heap → Prop) : Prop := Runs Tryd.prog 63 #[x0] h (ret R)
def betonyref24_Screen_Restore_c (x0 : Value) (h : Heap) (R : Value → Heap → Prop) : Prop := Runs Tryd.prog 64 #[x0] h (ret R)
def screen_Screen_Resize_c (x0 x1 x2 : Value) (h : Heap) (R : Value → Heap → Prop) : Prop := Runs Tryd.prog 65 #[x0, x1, x2] h (ret R)
def betonyref24_Screen_Resize_c (x0 x1 x2 : Value) (h : Heap) (R : Value → Heap → Prop) : Prop := Runs Tryd.prog 66 #[x0, x1, x2] h (ret R)
def betonyref03_in_c (x0 x1 : Value) (h : Heap) (R : Value → Heap → Prop) : Prop := Runs Tryd.prog 67 #[x0, x1] h (ret R)
def grid_Grid_Fill_c (x0 x1 x2 : Value) (h : Heap) (R : Value → Heap → Prop) : Prop := Runs Tryd.prog 69 #[x0, x1, x2] h (ret R)
def screen_Screen_blank_c (x0 : Value) (h : Heap) (R : Value → Heap → Prop) : Prop := Runs Tryd.prog 70 #[x0] h (ret R)
def rect_In_c (x0 x1 x2 : Value) (h : Heap) (R : Value → Heap → Prop) : Prop := Runs Tryd.prog 71 #[x0, x1, x2] h (ret R)
def grid_Grid_all_c (x0 : Value) (h : Heap) (R : Value → Heap → Prop) : Prop := Runs Tryd.prog 72 #[x0] h (ret R)
def grid_Grid_row_c (x0 x1 : Value) (h : Heap) (R : Value → Heap → Prop) : Prop := Runs Tryd.prog 73 #[x0, x1] h (ret R)
def screen_Screen_scrollUp_c (x0 x1 : Value) (h : Heap) (R : Value → Heap → Prop) : Prop := Runs Tryd.prog 74 #[x0, x1] h (ret R)
def screen_Screen_down_c (x0 x1 x2 : Value) (h : Heap) (R : Value → Heap → Prop) : Prop := Runs Tryd.prog 75 #[x0, x1, x2] h (ret R)
def wide_in_c (x0 x1 : Value) (h : Heap) (R : Value → Heap → Prop) : Prop := Runs Tryd.prog 76 #[x0, x1] h (ret R)
def grid_Grid_Copy_c (x0 x1 x2 x3 : Value) (h : Heap) (R : Value → Heap → Prop) : Prop := Runs Tryd.prog 77 #[x0, x1, x2, x3] h (ret R)
def screen_Screen_wipe_c (x0 x1 x2 x3 : Value) (h : Heap) (R : Value → Heap → Prop) : Prop := Runs Tryd.prog 78 #[x0, x1, x2, x3] h (ret R)
def betonyref24_Screen_set_c (x0 x1 x2 : Value) (h : Heap) (R : Value → Heap → Prop) : Prop := Runs Tryd.prog 79 #[x0, x1, x2] h (ret R)
def betonyref24_cat_c (x0 x1 x2 : Value) (h : Heap) (R : Value → Heap → Prop) : Prop := Runs Tryd.prog 80 #[x0, x1, x2] h (ret R)
def betonyref24_Screen_scroll_c (x0 x1 : Value) (h : Heap) (R : Value → Heap → Prop) : Prop := Runs Tryd.prog 81 #[x0, x1] h (ret R)
def betonyref24_Screen_move_c (x0 x1 x2 x3 : Value) (h : Heap) (R : Value → Heap → Prop) : Prop := Runs Tryd.prog 82 #[x0, x1, x2, x3] h (ret R)
def betonyref24_in_c (x0 x1 x2 : Value) (h : Heap) (R : Value → Heap → Prop) : Prop := Runs Tryd.prog 83 #[x0, x1, x2] h (ret R)
def betonyref24_Screen_stop_c (x0 x1 : Value) (h : Heap) (R : Value → Heap → Prop) : Prop := Runs Tryd.prog 84 #[x0, x1] h (ret R)
def betonyref24_Screen_blanks_c (x0 x1 : Value) (h : Heap) (R : Value → Heap → Prop) : Prop := Runs Tryd.prog 85 #[x0, x1] h (ret R)
def screen_Screen_up_c (x0 x1 x2 : Value) (h : Heap) (R : Value → Heap → Prop) : Prop := Runs Tryd.prog 86 #[x0, x1, x2] h (ret R)
def grid_Grid_Resize_c (x0 x1 x2 : Value) (h : Heap) (R : Value → Heap → Prop) : Prop := Runs Tryd.prog 87 #[x0, x1, x2] h (ret R)
def screen_Screen_mend_c (x0 x1 : Value) (h : Heap) (R : Value → Heap → Prop) : Prop := Runs Tryd.prog 88 #[x0, x1] h (ret R)
def betonyref24_whole_c (x0 : Value) (h : Heap) (R : Value → Heap → Prop) : Prop := Runs Tryd.prog 89 #[x0] h (ret R)
def slices_Clone_api_Cell_api_Cell_c (x0 : Value) (h : Heap) (R : Value → Heap → Prop) : Prop := Runs Tryd.prog 90 #[x0] h (ret R)
def rect_Both_c (x0 x1 : Value) (h : Heap) (R : Value → Heap → Prop) : Prop := Runs Tryd.prog 91 #[x0, x1] h (ret R)
def rect_Area_c (x0 : Value) (h : Heap) (R : Value → Heap → Prop) : Prop := Runs Tryd.prog 92 #[x0] h (ret R)
def rect_within_c (x0 x1 x2 : Value) (h : Heap) (R : Value → Heap → Prop) : Prop := Runs Tryd.prog 93 #[x0, x1, x2] h (ret R)
def grid_Grid_Row_c (x0 x1 : Value) (h : Heap) (R : Value → Heap → Prop) : Prop := Runs Tryd.prog 94 #[x0, x1] h (ret R)
def slices_BinarySearchFunc_wide_row_wide_row_rune_c (x0 x1 x2 : Value) (h : Heap) (R : Value → Heap → Prop) : Prop := Runs Tryd.prog 95 #[x0, x1, x2] h (ret R)
def wide_in_1_c (x0 x1 : Value) (h : Heap) (R : Value → Heap → Prop) : Prop := Runs Tryd.prog 96 #[x0, x1] h (ret R)
def grid_Grid_Blit_c (x0 x1 x2 x3 x4 : Value) (h : Heap) (R : Value → Heap → Prop) : Prop := Runs Tryd.prog 97 #[x0, x1, x2, x3, x4] h (ret R)
def betonyref24_Screen_blank_c (x0 : Value) (h : Heap) (R : Value → Heap → Prop) : Prop := Runs Tryd.prog 98 #[x0] h (ret R)
def screen_Screen_mend_1_c (x0 x1 x2 x3 : Value) (h : Heap) (R : Value → Heap → Prop) : Prop := Runs Tryd.prog 99 #[x0, x1, x2, x3] h (ret R)
def rect_Right_c (x0 : Value) (h : Heap) (R : Value → Heap → Prop) : Prop := Runs Tryd.prog 100 #[x0] h (ret R)
def rect_of_c (x0 x1 x2 x3 : Value) (h : Heap) (R : Value → Heap → Prop) : Prop := Runs Tryd.prog 101 #[x0, x1, x2, x3] h (ret R)
def rect_Empty_c (x0 : Value) (h : Heap) (R : Value → Heap → Prop) : Prop := Runs Tryd.prog 102 #[x0] h (ret R)
def grid_near_c (x0 : Value) (h : Heap) (R : Value → Heap → Prop) : Prop := Runs Tryd.prog 103 #[x0] h (ret R)
def rect_near_c (x0 : Value) (h : Heap) (R : Value → Heap → Prop) : Prop := Runs Tryd.prog 104 #[x0] h (ret R)
end Go.Proofs.YtmhhjpfkipficaaDoor


end

section
/- Short words. -/
namespace Go.HW
open Go
abbrev ud : Value := undef
abbrev Ap (l : List Value) (n : Nat) : List Value := l ++ List.replicate n undef
abbrev Aq (l : List Value) (n : Nat) (r : List Value) : List Value := l ++ (List.replicate n undef ++ r)
abbrev Ad (D : Nat → Value) (i n : Nat) (r : List Value) : List Value := (List.range' i n).map D ++ r
abbrev mk (l : List Value) : Act := ⟨l.toArray, []⟩
abbrev gd (l : List Value) : Nat → Value := fun i => l.getD i undef
end Go.HW


end

section
/- The shallow reading of one function, and that the function does it. Written by a program. -/
set_option linter.unusedVariables false
namespace Go.Proofs.YtmhhjpfkipficaaDoor
open Go Go.HW _root_.Go.Proofs.Tryd

def rect_within_S (x0 x1 x2 : Value) (h : Heap) (R : Value → Heap → Prop) : Prop :=
  sGt x2 (.int .i64 0) fun x8 =>
  sAnd x8 (fun k_1 =>
  sGe x0 x1 fun x12 =>
  k_1 x12) fun x13 =>
  sAnd x13 (fun k =>
  sConv .u64 x0 fun x16 =>
  sConv .u64 x1 fun x18 =>
  sSub .u64 x16 x18 fun x19 =>
  sConv .u64 x2 fun x21 =>
  sLt x19 x21 fun x22 =>
  k x22) fun x23 =>
  R x23 h
set_option maxRecDepth 100000 in
theorem rect_within_runs {x0 x1 x2 : Value} {h : Heap} {R : Value → Heap → Prop} (H : rect_within_S x0 x1 x2 h R) : rect_within_c x0 x1 x2 h R := by
 unfold rect_within_S at H
 refine runsof (b := (mk (Ap [x0,x1,x2] 21))) call93 func93 rfl fun w0 HA => wp_seq (lwp_list ?_)
 refine lsassign (.bool false) <| ls_nil (then_normal ?_)
 refine freq (mk (Ap [x0,x1,x2,ud,ud,ud,(.bool false)] 17)) <| wp_seq (lwp_list ?_)
 refine lsmove x2 <| lsp 8 (psGt H) fun x8 H => lsmove x8 <| ls_and [(),(),(),()] (fun K a w => ∃ (D : Nat → Value) (x13 : Value),a = (mk (Ap [x0,x1,x2,ud,ud,ud,(.bool false),x2,x8,x8,(D 0),(D 1),(D 2),x13] 10)) ∧ At w0 w h ∧ K x13) H (fun hb_1 H => ?_) (fun hb_1 H => ?_) ?_
 ·refine lsmove (hg := by rw [hb_1]; kernel_rfl) x0 <| lsmove (hg := by rw [hb_1]; kernel_rfl) x1 <| lsp (hg := by rw [hb_1]; kernel_rfl) 12 (psGe H) fun x12 H => lspickt x12 (by rw [hb_1]; kernel_rfl) <| ls_nil (then_normal ?_)
  exact ⟨(gd ([x0,x1,x12])),x12,by kernel_rfl,HA,H⟩
 ·refine lsskip (hg := by rw [hb_1]; kernel_rfl) 10 <| lsskip (hg := by rw [hb_1]; kernel_rfl) 11 <| lsskip (hg := by rw [hb_1]; kernel_rfl) 12 <| lspickf (.bool false) (by rw [hb_1]; kernel_rfl) <| ls_nil (then_normal ?_)
  exact ⟨(gd ([ud,ud,ud])),(.bool false),by kernel_rfl,HA,H⟩
 ·rintro _ w ⟨D,x13,rfl,HA,H⟩
  refine lsmove x13 <| ls_and [(),(),(),(),(),(),(),(),()] (fun K a w => ∃ (D_1 : Nat → Value) (x23 : Value),a = (mk ([x0,x1,x2,ud,ud,ud,(.bool false),x2,x8,x8,(D 0),(D 1),(D 2),x13,x13] ++ (Ad D_1 0 8 [x23]))) ∧ At w0 w h ∧ K x23) H (fun hb H => ?_) (fun hb H => ?_) ?_
  ·refine lsmove (hg := by rw [hb]; kernel_rfl) x0 <| lsp (hg := by rw [hb]; kernel_rfl) 16 (pconv underlying3 underlying110 H) fun x16 H => lsmove (hg := by rw [hb]; kernel_rfl) x1 <| lsp (hg := by rw [hb]; kernel_rfl) 18 (pconv underlying3 underlying110 H) fun x18 H => lsp (hg := by rw [hb]; kernel_rfl) 19 (psub H) fun x19 H => lsmove (hg := by rw [hb]; kernel_rfl) x2 <| lsp (hg := by rw [hb]; kernel_rfl) 21 (pconv underlying3 underlying110 H) fun x21 H => lsp (hg := by rw [hb]; kernel_rfl) 22 (psLt H) fun x22 H => lspickt x22 (by rw [hb]; kernel_rfl) <| ls_nil (then_normal ?_)
   exact ⟨(gd ([x0,x16,x1,x18,x19,x2,x21,x22])),x22,by kernel_rfl,HA,H⟩
  ·refine lsskip (hg := by rw [hb]; kernel_rfl) 15 <| lsskip (hg := by rw [hb]; kernel_rfl) 16 <| lsskip (hg := by rw [hb]; kernel_rfl) 17 <| lsskip (hg := by rw [hb]; kernel_rfl) 18 <| lsskip (hg := by rw [hb]; kernel_rfl) 19 <| lsskip (hg := by rw [hb]; kernel_rfl) 20 <| lsskip (hg := by rw [hb]; kernel_rfl) 21 <| lsskip (hg := by rw [hb]; kernel_rfl) 22 <| lspickf (.bool false) (by rw [hb]; kernel_rfl) <| ls_nil (then_normal ?_)
   exact ⟨(gd (Ap [] 8)),(.bool false),by kernel_rfl,HA,H⟩
  ·rintro _ w_1 ⟨D_1,x23,rfl,HA_1,H⟩
   refine lsassign x23 <| ls_nil (then_normal ?_)
   refine freq (mk ([x0,x1,x2,ud,ud,ud,x23,x2,x8,x8,(D 0),(D 1),(D 2),x13,x13] ++ (Ad D_1 0 8 [x23]))) <| wp_ret <| end1 (results93) (by kernel_rfl) (by kernel_rfl) HA_1 H _ (.inr rfl)

end Go.Proofs.YtmhhjpfkipficaaDoor


end

section
/- The shallow reading of one function, and that the function does it. Written by a program. -/
set_option linter.unusedVariables false
namespace Go.Proofs.YtmhhjpfkipficaaDoor
open Go Go.HW _root_.Go.Proofs.Tryd

def rect_In_S (x0 x1 x2 : Value) (h : Heap) (R : Value → Heap → Prop) : Prop :=
  sBox h x0 83 fun x3 h => 
  sOff x3 0 fun x8 =>
  sLd h x8 fun x9 =>
  sOff x3 2 fun x10 =>
  sLd h x10 fun x11 =>
  rect_within_c x1 x9 x11 h fun x12 h_1 => 
  sAndH x12 h_1 (fun k =>
  sOff x3 1 fun x15 =>
  sLd h_1 x15 fun x16 =>
  sOff x3 3 fun x17 =>
  sLd h_1 x17 fun x18 =>
  rect_within_c x2 x16 x18 h_1 fun x19 h_3 => 
  k x19 h_3) fun x20 h_2 =>
  R x20 h_2
set_option maxRecDepth 100000 in
theorem rect_In_runs {x0 x1 x2 : Value} {h : Heap} {R : Value → Heap → Prop} (H : rect_In_S x0 x1 x2 h R) : rect_In_c x0 x1 x2 h R := by
 unfold rect_In_S at H
 refine runsof (b := (mk (Ap [x0,x1,x2] 18))) call71 func71 rfl fun w0 HA => wp_seq (lwp_list ?_)
 refine lsd 3 HA (dbox H) fun x3 h w H HA => lsassign (.bool false) <| ls_nil (then_normal ?_)
 refine freq (mk (Ap [x0,x1,x2,x3,ud,ud,(.bool false)] 14)) <| wp_seq (lwp_list ?_)
 refine lsmove x1 <| lsp 8 (poff underlying83 rfl sizeOf3 rfl H) fun x8 H => lsy 9 HA (yld isAgg3 H) fun x9 H => lsp 10 (poff underlying83 rfl sizeOf3 rfl H) fun x10 H => lsy 11 HA (yld isAgg3 H) fun x11 H => lsd 12 HA (dcall H) fun x12 h_1 w_1 H HA_1 => lsmove x12 <| ls_andh [(),(),(),(),(),(),()] (fun K a w => ∃ (D : Nat → Value) (x20 : Value) (h_2 : Heap),a = (mk ([x0,x1,x2,x3,ud,ud,(.bool false),x1,x8,x9,x10,x11,x12,x12] ++ (Ad D 0 6 [x20]))) ∧ At w0 w h_2 ∧ K x20 h_2) H (fun hb H => ?_) (fun hb H => ?_) ?_
 ·refine lsmove (hg := by rw [hb]; kernel_rfl) x2 <| lsp (hg := by rw [hb]; kernel_rfl) 15 (poff underlying83 rfl sizeOf3 rfl H) fun x15 H => lsy (hg := by rw [hb]; kernel_rfl) 16 HA_1 (yld isAgg3 H) fun x16 H => lsp (hg := by rw [hb]; kernel_rfl) 17 (poff underlying83 rfl sizeOf3 rfl H) fun x17 H => lsy (hg := by rw [hb]; kernel_rfl) 18 HA_1 (yld isAgg3 H) fun x18 H => lsd (hg := by rw [hb]; kernel_rfl) 19 HA_1 (dcall H) fun x19 h_3 w_3 H HA_3 => lspickt x19 (by rw [hb]; kernel_rfl) <| ls_nil (then_normal ?_)
  exact ⟨(gd ([x2,x15,x16,x17,x18,x19])),x19,h_3,by kernel_rfl,HA_3,H⟩
 ·refine lsskip (hg := by rw [hb]; kernel_rfl) 14 <| lsskip (hg := by rw [hb]; kernel_rfl) 15 <| lsskip (hg := by rw [hb]; kernel_rfl) 16 <| lsskip (hg := by rw [hb]; kernel_rfl) 17 <| lsskip (hg := by rw [hb]; kernel_rfl) 18 <| lsskip (hg := by rw [hb]; kernel_rfl) 19 <| lspickf (.bool false) (by rw [hb]; kernel_rfl) <| ls_nil (then_normal ?_)
  exact ⟨(gd (Ap [] 6)),(.bool false),h_1,by kernel_rfl,HA_1,H⟩
 ·rintro _ w_2 ⟨D,x20,h_2,rfl,HA_2,H⟩
  refine lsassign x20 <| ls_nil (then_normal ?_)
  refine freq (mk ([x0,x1,x2,x3,ud,ud,x20,x1,x8,x9,x10,x11,x12,x12] ++ (Ad D 0 6 [x20]))) <| wp_ret <| end1 (results71) (by kernel_rfl) (by kernel_rfl) HA_2 H _ (.inr rfl)

end Go.Proofs.YtmhhjpfkipficaaDoor


end

section
/- The shallow reading of one function, and that the function does it. Written by a program. -/
set_option linter.unusedVariables false
namespace Go.Proofs.YtmhhjpfkipficaaDoor
open Go Go.HW _root_.Go.Proofs.Tryd

def grid_Grid_all_S (x0 : Value) (h : Heap) (R : Value → Heap → Prop) : Prop :=
  sNew h #[.int .i64 0, .int .i64 0, .int .i64 0, .int .i64 0] 83 fun x2 h => 
  sNil x0 fun x4 =>
  sOff x4 0 fun x5 =>
  sLd h x5 fun x6 =>
  sNil x0 fun x8 =>
  sOff x8 1 fun x9 =>
  sLd h x9 fun x10 =>
  sBuild #[.int .i64 0, .int .i64 0, .int .i64 0, .int .i64 0] [(2, 1, x6), (3, 1, x10)] fun x11 =>
  sStN h x2 x11 4 fun h_1 => 
  sLdN h_1 x2 4 fun r2 =>
  R r2 h_1
set_option maxRecDepth 100000 in
theorem grid_Grid_all_runs {x0 : Value} {h : Heap} {R : Value → Heap → Prop} (H : grid_Grid_all_S x0 h R) : grid_Grid_all_c x0 h R := by
 unfold grid_Grid_all_S at H
 refine runsof (b := (mk (Ap [x0] 11))) call72 func72 rfl fun w0 HA => wp_seq (lwp_list ?_)
 refine lsd 2 HA (d_alloc zeroValue83 H) fun x2 h w H HA => ls_nil (then_normal ?_)
 refine freq (mk (Ap [x0,ud,x2] 9)) <| wp_seq <| lwpmx (Nat.testBit 512) (Nat.testBit 0) (Nat.testBit 375) [0,1,3,7,0,16,48,112,255,511] (Nat.testBit 0) (fun h' => h' = h) [0,1,2,3,4,5,6,7,8,9] HA rfl fun w_1 HA_1 => lmal x0 3 rfl (almove) <| lmp 4 rfl (pnil H) fun x4 H => lmp 5 rfl (poff underlying89 rfl sizeOf3 rfl H) fun x5 H => lmf 6 rfl (of_eq (yld isAgg3 H)) fun x6 H => lmal x0 7 rfl (almove) <| lmp 8 rfl (pnil H) fun x8 H => lmp 9 rfl (poff underlying89 rfl sizeOf3 rfl H) fun x9 H => lmf 10 rfl (of_eq (yld isAgg3 H)) fun x10 H => lmp 11 rfl (plit (pl := [(0,1),(1,1),(2,1),(3,1)]) zeroValue83 underlying83 ⟨(by kernel_rfl),sizeOf3,(by kernel_rfl),sizeOf3,(by kernel_rfl),sizeOf3,(by kernel_rfl),sizeOf3,trivial⟩ H) fun x11 H => lmdn rfl HA_1 (dstn sizeOf83 H) (fun _ h_1 w_2 H HA_2 => ?_)
 refine lm_nil <| then_normal <| freq (mk [x0,ud,x2,x0,x4,x5,x6,x0,x8,x9,x10,x11]) <| wp_ret ?_
 obtain ⟨r2,hr2,H⟩ := ld_n isAgg83 sizeOf83 H
 exact endR (vs := [r2]) (results72) (by kernel_rfl) ⟨⟨_,(by kernel_rfl),hr2⟩, trivial⟩ HA_2 H _ (.inr rfl)

end Go.Proofs.YtmhhjpfkipficaaDoor


end

section
/- The shallow reading of one function, and that the function does it. Written by a program. -/
set_option linter.unusedVariables false
namespace Go.Proofs.YtmhhjpfkipficaaDoor
open Go Go.HW _root_.Go.Proofs.Tryd

def grid_Grid_row_S (x0 x1 : Value) (h : Heap) (R : Value → Heap → Prop) : Prop :=
  sNil x0 fun x6 =>
  sOff x6 2 fun x7 =>
  sLd h x7 fun x8 =>
  sNil x0 fun x11 =>
  sOff x11 0 fun x12 =>
  sLd h x12 fun x13 =>
  sMul .i64 x1 x13 fun x14 =>
  sAdd .i64 x1 (.int .i64 1) fun x16 =>
  sNil x0 fun x18 =>
  sOff x18 0 fun x19 =>
  sLd h x19 fun x20 =>
  sMul .i64 x16 x20 fun x21 =>
  sSl x8 (some x14) (some x21) 4 fun x22 =>
  R x22 h
set_option maxRecDepth 100000 in
theorem grid_Grid_row_runs {x0 x1 : Value} {h : Heap} {R : Value → Heap → Prop} (H : grid_Grid_row_S x0 x1 h R) : grid_Grid_row_c x0 x1 h R := by
 unfold grid_Grid_row_S at H
 refine runsof (b := (mk (Ap [x0,x1] 21))) call73 func73 rfl fun w0 HA => wp_seq (lwp_list ?_)
 refine lsassign (.slice none 0 0) <| ls_nil (then_normal ?_)
 refine freq (mk (Ap [x0,x1,ud,ud,(.slice none 0 0)] 18)) <| wp_seq <| lwpqt HA <| lqmove x0 <| lqp 6 (pnil H) fun x6 H => lqp 7 (poff underlying89 rfl sizeOf32 rfl H) fun x7 H => lqy 8 HA (yld isAgg32 H) fun x8 H => lqmove x1 <| lqmove x0 <| lqp 11 (pnil H) fun x11 H => lqp 12 (poff underlying89 rfl sizeOf3 rfl H) fun x12 H => lqy 13 HA (yld isAgg3 H) fun x13 H => lqp 14 (pmul H) fun x14 H => lqmove x1 ?_
 refine lqp 16 (padd H) fun x16 H => lqmove x0 <| lqp 18 (pnil H) fun x18 H => lqp 19 (poff underlying89 rfl sizeOf3 rfl H) fun x19 H => lqy 20 HA (yld isAgg3 H) fun x20 H => lqp 21 (pmul H) fun x21 H => lqp 22 (psl underlying32 sizeOf31 H) fun x22 H => lqassign x22 <| lq_nil fun w HA => then_normal <| freq (mk [x0,x1,ud,ud,x22,x0,x6,x7,x8,x1,x0,x11,x12,x13,x14,x1,x16,x0,x18,x19,x20,x21,x22]) <| wp_ret <| end1 (results73) (by kernel_rfl) (by kernel_rfl) HA H _ (.inr rfl)

end Go.Proofs.YtmhhjpfkipficaaDoor


end

section
/- The shallow reading of one function, and that the function does it. Written by a program. -/
set_option linter.unusedVariables false
namespace Go.Proofs.YtmhhjpfkipficaaDoor
open Go Go.HW _root_.Go.Proofs.Tryd

def grid_Grid_At_S (x0 x1 x2 : Value) (h : Heap) (R : Value → Heap → Prop) : Prop :=
  sNew h #[.int .i32 0, .int .i64 0, .int .i64 0, .int .i64 0] 31 fun x6 h => 
  grid_Grid_all_c x0 h fun x8 h_1 => 
  rect_In_c x8 x1 x2 h_1 fun x11 h_2 => 
  sNot x11 fun x12 =>
  sIf x12 (sBuild #[.int .i32 0, .int .i64 0, .int .i64 0, .int .i64 0] [] fun x13 =>
  sStN h_2 x6 x13 4 fun h_3 => 
  sLdN h_3 x6 4 fun r6 =>
  R r6 h_3) (grid_Grid_row_c x0 x2 h_2 fun x16 h_4 => 
  sIxS x16 x1 4 fun x18 =>
  sLdN h_4 x18 4 fun x19 =>
  sStN h_4 x6 x19 4 fun h_5 => 
  sLdN h_5 x6 4 fun r6_1 =>
  R r6_1 h_5)
set_option maxRecDepth 100000 in
theorem grid_Grid_At_runs {x0 x1 x2 : Value} {h : Heap} {R : Value → Heap → Prop} (H : grid_Grid_At_S x0 x1 x2 h R) : grid_Grid_At_c x0 x1 x2 h R := by
 unfold grid_Grid_At_S at H
 refine runsof (b := (mk (Ap [x0,x1,x2] 17))) call25 func25 rfl fun w0 HA => wp_seq (lwp_list ?_)
 refine lsd 6 HA (d_alloc zeroValue31 H) fun x6 h w H HA => ls_nil (then_normal ?_)
 refine freq (mk (Ap [x0,x1,x2,ud,ud,ud,x6] 13)) <| wp_seq <| wp_seq (lwp_list ?_)
 refine lsmove x0 <| lsd 8 HA (dcall H) fun x8 h_1 w_1 H HA_1 => lsmove x1 <| lsmove x2 <| lsd 11 HA_1 (dcall H) fun x11 h_2 w_2 H HA_2 => lsp 12 (pnot H) fun x12 H => ls_nil (then_normal ?_)
 refine freq (mk (Ap [x0,x1,x2,ud,ud,ud,x6,x0,x8,x1,x2,x11,x12] 7)) <| wp_if rfl H (fun H => ?_) (fun H => ?_)
 ·refine wp_seq (lwp_list ?_)
  refine lsp 13 (plit (pl := [(0,1),(1,3)]) zeroValue31 underlying31 ⟨(by kernel_rfl),sizeOf21,(by kernel_rfl),sizeOf29,trivial⟩ H) fun x13 H => lsdn HA_2 (dstn sizeOf31 H) fun _ h_3 w_3 H HA_3 => ls_nil (then_normal ?_)
  refine freq (mk (Ap [x0,x1,x2,ud,ud,ud,x6,x0,x8,x1,x2,x11,x12,x13] 6)) <| wp_ret <| then_ret ?_
  obtain ⟨r6,hr6,H⟩ := ld_n isAgg31 sizeOf31 H
  exact endR (vs := [r6]) (results25) (by kernel_rfl) ⟨⟨_,(by kernel_rfl),hr6⟩, trivial⟩ HA_3 H _ (.inr rfl)
 ·refine wp_skip <| then_normal <| freq (mk (Ap [x0,x1,x2,ud,ud,ud,x6,x0,x8,x1,x2,x11,x12] 7)) <| wp_seq (lwp_list ?_)
  refine lsmove x0 <| lsmove x2 <| lsd 16 HA_2 (dcall H) fun x16 h_4 w_4 H HA_4 => lsmove x1 <| lsp 18 (pixs underlying32 sizeOf31 H) fun x18 H => lsy 19 HA_4 (yldn isAgg31 sizeOf31 H) fun x19 H => lsdn HA_4 (dstn sizeOf31 H) fun _ h_5 w_5 H HA_5 => ls_nil (then_normal ?_)
  refine freq (mk [x0,x1,x2,ud,ud,ud,x6,x0,x8,x1,x2,x11,x12,ud,x0,x2,x16,x1,x18,x19]) <| wp_ret ?_
  obtain ⟨r6_1,hr6_1,H⟩ := ld_n isAgg31 sizeOf31 H
  exact endR (vs := [r6_1]) (results25) (by kernel_rfl) ⟨⟨_,(by kernel_rfl),hr6_1⟩, trivial⟩ HA_5 H _ (.inr rfl)

end Go.Proofs.YtmhhjpfkipficaaDoor


end

section
/- The shallow reading of one function, and that the function does it. Written by a program. -/
set_option linter.unusedVariables false
namespace Go.Proofs.YtmhhjpfkipficaaDoor
open Go Go.HW _root_.Go.Proofs.Tryd

def grid_Grid_Set_j1 (R : Value → Heap → Prop) (x14 : Value) (h_3 : Heap) : Prop :=
  R x14 h_3
def grid_Grid_Set_S (x0 x1 x2 x3 : Value) (h : Heap) (R : Value → Heap → Prop) : Prop :=
  sBox h x3 31 fun x7 h => 
  grid_Grid_all_c x0 h fun x11 h_1 => 
  rect_In_c x11 x1 x2 h_1 fun x14 h_2 => 
  sIf x14 (∃ C : Heap → Prop, C h_2 ∧ (grid_Grid_row_c x0 x2 h_2 fun x18 h_4 => C h_4 ∧ (
  sLdNC C x7 4 fun x20 =>
  sIxS x18 x1 4 fun x21 =>
  sStN h_4 x21 x20 4 fun h_5 => 
  grid_Grid_Set_j1 R x14 h_5))) (grid_Grid_Set_j1 R x14 h_2)
set_option maxRecDepth 100000 in
theorem grid_Grid_Set_runs {x0 x1 x2 x3 : Value} {h : Heap} {R : Value → Heap → Prop} (H : grid_Grid_Set_S x0 x1 x2 x3 h R) : grid_Grid_Set_c x0 x1 x2 x3 h R := by
 unfold grid_Grid_Set_S at H
 refine runsof (b := (mk (Ap [x0,x1,x2,x3] 19))) call33 func33 rfl fun w0 HA => wp_seq (lwp_list ?_)
 refine lsd 7 HA (dbox H) fun x7 h w H HA => lsassign (.bool false) <| ls_nil (then_normal ?_)
 refine freq (mk (Ap [x0,x1,x2,x3,ud,ud,ud,x7,(.bool false)] 14)) <| wp_seq (lwp_list ?_)
 refine lsmove x0 <| lsd 11 HA (dcall H) fun x11 h_1 w_1 H HA_1 => lsmove x1 <| lsmove x2 <| lsd 14 HA_1 (dcall H) fun x14 h_2 w_2 H HA_2 => lsassign x14 <| ls_nil (then_normal ?_)
 refine freq (mk (Ap [x0,x1,x2,x3,ud,ud,ud,x7,(.bool false),x14,x0,x11,x1,x2,x14] 8)) <| wp_seq <| wp_seq (lwp_list ?_)
 refine lsmove x14 <| ls_nil (then_normal ?_)
 refine freq (mk (Ap [x0,x1,x2,x3,ud,ud,ud,x7,(.bool false),x14,x0,x11,x1,x2,x14,x14] 7)) <| wp_join (fun a w => ∃ (D : Nat → Value) (h_3 : Heap),a = (mk ([x0,x1,x2,x3,ud,ud,ud,x7,(.bool false),x14,x0,x11,x1,x2,x14,x14] ++ (Ad D 0 6 [ud]))) ∧ At w0 w h_3 ∧ grid_Grid_Set_j1 R x14 h_3) ?_ ?_
 ·refine wp_if rfl H (fun H => ?_) (fun H => ?_)
  ·obtain ⟨C,HC,H⟩ := H
   refine lwpmx (Nat.testBit 68) (Nat.testBit 4) (Nat.testBit 43) [0,0,3,0,0,31,63] (Nat.testBit 0) C [0,1,2,3,4,5,6] HA_2 HC fun w_4 HA_4 => lmal x0 16 rfl (almove) <| lmal x2 17 rfl (almove) <| lmdc 18 rfl HA_4 (dcall H) fun x18 h_4 w_5 H HA_5 => lmal x1 19 rfl (almove) <| lmf 20 rfl (c_ldn isAgg31 sizeOf31 (by kernel_rfl) H) fun x20 H => lmp 21 rfl (pixs underlying32 sizeOf31 H) fun x21 H => lmdn rfl HA_5 (dstn sizeOf31 H) fun _ h_5 w_6 H HA_6 => lm_nil <| ⟨(gd ([x0,x2,x18,x1,x20,x21])),h_5,by kernel_rfl,HA_6,H⟩
  ·refine wp_skip <| ⟨(gd (Ap [] 6)),h_2,by kernel_rfl,HA_2,H⟩
 ·rintro _ w_3 ⟨D,h_3,rfl,HA_3,H⟩
  unfold grid_Grid_Set_j1 at H
  refine then_normal <| freq (mk ([x0,x1,x2,x3,ud,ud,ud,x7,(.bool false),x14,x0,x11,x1,x2,x14,x14] ++ (Ad D 0 6 [ud]))) <| wp_seq (lwp_list ?_)
  refine lsmove x14 <| lsassign x14 <| ls_nil (then_normal ?_)
  refine freq (mk ([x0,x1,x2,x3,ud,ud,ud,x7,x14,x14,x0,x11,x1,x2,x14,x14] ++ (Ad D 0 6 [x14]))) <| wp_ret <| end1 (results33) (by kernel_rfl) (by kernel_rfl) HA_3 H _ (.inr rfl)

end Go.Proofs.YtmhhjpfkipficaaDoor


end

section
/- The shallow reading of one function, and that the function does it. Written by a program. -/
set_option linter.unusedVariables false
namespace Go.Proofs.YtmhhjpfkipficaaDoor
open Go Go.HW _root_.Go.Proofs.Tryd

end Go.Proofs.YtmhhjpfkipficaaDoor


end

section
/- The shallow reading of one function, and that the function does it. Written by a program. -/
set_option linter.unusedVariables false
namespace Go.Proofs.YtmhhjpfkipficaaDoor
open Go Go.HW _root_.Go.Proofs.Tryd

def grid_New_S (x0 x1 : Value) (h : Heap) (R : Value → Heap → Prop) : Prop :=
  sLt x0 (.int .i64 1) fun x6 =>
  sOr x6 (fun k_2 =>
  sGt x0 (.int .i64 512) fun x9 =>
  k_2 x9) fun x10 =>
  sOr x10 (fun k_1 =>
  sLt x1 (.int .i64 1) fun x13 =>
  k_1 x13) fun x14 =>
  sOr x14 (fun k =>
  sGt x1 (.int .i64 512) fun x17 =>
  k x17) fun x18 =>
  sIf x18 (R (.pointer none) h) (sMul .i64 x0 x1 fun x23 =>
  sMk h x23 x23 #[.int .i32 0, .int .i64 0, .int .i64 0, .int .i64 0] 31 32 fun x24 h => 
  sBuild #[.int .i64 0, .int .i64 0, .slice none 0 0] [(0, 1, x0), (1, 1, x1), (2, 1, x24)] fun x25 =>
  sBox h x25 89 fun x26 h_1 => 
  R x26 h_1)
set_option maxRecDepth 100000 in
theorem grid_New_runs {x0 x1 : Value} {h : Heap} {R : Value → Heap → Prop} (H : grid_New_S x0 x1 h R) : grid_New_c x0 x1 h R := by
 unfold grid_New_S at H
 refine runsof (b := (mk (Ap [x0,x1] 25))) call27 func27 rfl fun w0 HA => wp_seq (lwp_list ?_)
 refine lsassign (.pointer none) <| ls_nil (then_normal ?_)
 refine freq (mk (Ap [x0,x1,ud,ud,(.pointer none)] 22)) <| wp_seq <| wp_seq (lwp_list ?_)
 refine lsmove x0 <| lsp 6 (psLt H) fun x6 H => lsmove x6 <| ls_or [(),(),()] (fun K a w => ∃ (D : Nat → Value) (x10 : Value),a = (mk (Ap [x0,x1,ud,ud,(.pointer none),x0,x6,x6,(D 0),(D 1),x10] 16)) ∧ At w0 w h ∧ K x10) H (fun hb_2 H => ?_) (fun hb_2 H => ?_) ?_
 ·refine lsmove (hg := by rw [hb_2]; kernel_rfl) x0 <| lsp (hg := by rw [hb_2]; kernel_rfl) 9 (psGt H) fun x9 H => lspickf x9 (by rw [hb_2]; kernel_rfl) <| ls_nil (then_normal ?_)
  exact ⟨(gd ([x0,x9])),x9,by kernel_rfl,HA,H⟩
 ·refine lsskip (hg := by rw [hb_2]; kernel_rfl) 8 <| lsskip (hg := by rw [hb_2]; kernel_rfl) 9 <| lspickt (.bool true) (by rw [hb_2]; kernel_rfl) <| ls_nil (then_normal ?_)
  exact ⟨(gd ([ud,ud])),(.bool true),by kernel_rfl,HA,H⟩
 ·rintro _ w ⟨D,x10,rfl,HA,H⟩
  refine lsmove x10 <| ls_or [(),(),()] (fun K a w => ∃ (D_1 : Nat → Value) (x14 : Value),a = (mk (Ap [x0,x1,ud,ud,(.pointer none),x0,x6,x6,(D 0),(D 1),x10,x10,(D_1 0),(D_1 1),x14] 12)) ∧ At w0 w h ∧ K x14) H (fun hb_1 H => ?_) (fun hb_1 H => ?_) ?_
  ·refine lsmove (hg := by rw [hb_1]; kernel_rfl) x1 <| lsp (hg := by rw [hb_1]; kernel_rfl) 13 (psLt H) fun x13 H => lspickf x13 (by rw [hb_1]; kernel_rfl) <| ls_nil (then_normal ?_)
   exact ⟨(gd ([x1,x13])),x13,by kernel_rfl,HA,H⟩
  ·refine lsskip (hg := by rw [hb_1]; kernel_rfl) 12 <| lsskip (hg := by rw [hb_1]; kernel_rfl) 13 <| lspickt (.bool true) (by rw [hb_1]; kernel_rfl) <| ls_nil (then_normal ?_)
   exact ⟨(gd ([ud,ud])),(.bool true),by kernel_rfl,HA,H⟩
  ·rintro _ w_1 ⟨D_1,x14,rfl,HA_1,H⟩
   refine lsmove x14 <| ls_or [(),(),()] (fun K a w => ∃ (D_2 : Nat → Value) (x18 : Value),a = (mk (Ap [x0,x1,ud,ud,(.pointer none),x0,x6,x6,(D 0),(D 1),x10,x10,(D_1 0),(D_1 1),x14,x14,(D_2 0),(D_2 1),x18] 8)) ∧ At w0 w h ∧ K x18) H (fun hb H => ?_) (fun hb H => ?_) ?_
   ·refine lsmove (hg := by rw [hb]; kernel_rfl) x1 <| lsp (hg := by rw [hb]; kernel_rfl) 17 (psGt H) fun x17 H => lspickf x17 (by rw [hb]; kernel_rfl) <| ls_nil (then_normal ?_)
    exact ⟨(gd ([x1,x17])),x17,by kernel_rfl,HA_1,H⟩
   ·refine lsskip (hg := by rw [hb]; kernel_rfl) 16 <| lsskip (hg := by rw [hb]; kernel_rfl) 17 <| lspickt (.bool true) (by rw [hb]; kernel_rfl) <| ls_nil (then_normal ?_)
    exact ⟨(gd ([ud,ud])),(.bool true),by kernel_rfl,HA_1,H⟩
   ·rintro _ w_2 ⟨D_2,x18,rfl,HA_2,H⟩
    refine ls_nil (then_normal ?_)
    refine freq (mk (Ap [x0,x1,ud,ud,(.pointer none),x0,x6,x6,(D 0),(D 1),x10,x10,(D_1 0),(D_1 1),x14,x14,(D_2 0),(D_2 1),x18] 8)) <| wp_if rfl H (fun H => ?_) (fun H => ?_)
    ·refine wp_seq (lwp_list ?_)
     refine lsassign (.pointer none) <| ls_nil (then_normal ?_)
     refine freq (mk (Ap [x0,x1,ud,ud,(.pointer none),x0,x6,x6,(D 0),(D 1),x10,x10,(D_1 0),(D_1 1),x14,x14,(D_2 0),(D_2 1),x18] 8)) <| wp_ret <| then_ret <| end1 (results27) (by kernel_rfl) (by kernel_rfl) HA_2 H _ (.inr rfl)
    ·refine wp_skip <| then_normal <| freq (mk (Ap [x0,x1,ud,ud,(.pointer none),x0,x6,x6,(D 0),(D 1),x10,x10,(D_1 0),(D_1 1),x14,x14,(D_2 0),(D_2 1),x18] 8)) <| wp_seq (lwp_list ?_)
     refine lsmove x0 <| lsmove x1 <| lsmove x0 <| lsmove x1 <| lsp 23 (pmul H) fun x23 H => lsd 24 HA_2 (d_mk (z := #[.int .i32 0, .int .i64 0, .int .i64 0, .int .i64 0]) underlying32 typeInfo31 sizeOf31 zeroValue31 (by kernel_rfl) (by kernel_rfl) H) fun x24 h w_3 H HA_3 => lsp 25 (plit (pl := [(0,1),(1,1),(2,1)]) zeroValue89 underlying89 ⟨(by kernel_rfl),sizeOf3,(by kernel_rfl),sizeOf3,(by kernel_rfl),sizeOf32,trivial⟩ H) fun x25 H => lsd 26 HA_3 (dbox H) fun x26 h_1 w_4 H HA_4 => lsassign x26 <| ls_nil (then_normal ?_)
     refine freq (mk [x0,x1,ud,ud,x26,x0,x6,x6,(D 0),(D 1),x10,x10,(D_1 0),(D_1 1),x14,x14,(D_2 0),(D_2 1),x18,x0,x1,x0,x1,x23,x24,x25,x26]) <| wp_ret <| end1 (results27) (by kernel_rfl) (by kernel_rfl) HA_4 H _ (.inr rfl)

end Go.Proofs.YtmhhjpfkipficaaDoor


end

section
/- The shallow reading of one function, and that the function does it. Written by a program. -/
set_option linter.unusedVariables false
namespace Go.Proofs.YtmhhjpfkipficaaDoor
open Go Go.HW _root_.Go.Proofs.Tryd

def slices_Clone_api_Cell_api_Cell_S (x0 : Value) (h : Heap) (R : Value → Heap → Prop) : Prop :=
  sEqlNilS x0 fun x4 =>
  sIf x4 (R (.slice none 0 0) h) (sSlit h #[] [] 31 0 fun x5 h => 
  sApp h x5 x0 #[.int .i32 0, .int .i64 0, .int .i64 0, .int .i64 0] 31 32 fun x7 h_1 => 
  R x7 h_1)
set_option maxRecDepth 100000 in
theorem slices_Clone_api_Cell_api_Cell_runs {x0 : Value} {h : Heap} {R : Value → Heap → Prop} (H : slices_Clone_api_Cell_api_Cell_S x0 h R) : slices_Clone_api_Cell_api_Cell_c x0 h R := by
 unfold slices_Clone_api_Cell_api_Cell_S at H
 refine runsof (b := (mk (Ap [x0] 7))) call90 func90 rfl fun w0 HA => wp_seq (lwp_list ?_)
 refine lsassign (.slice none 0 0) <| ls_nil (then_normal ?_)
 refine freq (mk (Ap [x0,ud,(.slice none 0 0)] 5)) <| wp_seq <| wp_seq (lwp_list ?_)
 refine lsmove x0 <| lsp 4 (p_eqlNilS underlying32 (by kernel_rfl) (by kernel_rfl) H) fun x4 H => ls_nil (then_normal ?_)
 refine freq (mk [x0,ud,(.slice none 0 0),x0,x4,ud,ud,ud]) <| wp_if rfl H (fun H => ?_) (fun H => ?_)
 ·refine wp_seq (lwp_list ?_)
  refine lsassign (.slice none 0 0) <| ls_nil (then_normal ?_)
  refine freq (mk [x0,ud,(.slice none 0 0),x0,x4,ud,ud,ud]) <| wp_ret <| then_ret <| end1 (results90) (by kernel_rfl) (by kernel_rfl) HA H _ (.inr rfl)
 ·refine wp_skip <| then_normal <| freq (mk [x0,ud,(.slice none 0 0),x0,x4,ud,ud,ud]) <| wp_seq (lwp_list ?_)
  refine lsd 5 HA (dslit (zc := #[]) underlying32 sizeOf31 (by decide) (.inl ⟨(by kernel_rfl),(by kernel_rfl)⟩) H) fun x5 h w H HA => lsmove x0 <| lsd 7 HA (dapp (z := #[.int .i32 0, .int .i64 0, .int .i64 0, .int .i64 0]) underlying32 underlying32 (.inl ⟨_,rfl⟩) typeInfo31 sizeOf31 zeroValue31 H) fun x7 h_1 w_1 H HA_1 => lsassign x7 <| ls_nil (then_normal ?_)
  refine freq (mk [x0,ud,x7,x0,x4,x5,x0,x7]) <| wp_ret <| end1 (results90) (by kernel_rfl) (by kernel_rfl) HA_1 H _ (.inr rfl)

end Go.Proofs.YtmhhjpfkipficaaDoor


end

section
/- Grids: cells in rows. -/
set_option linter.unusedSimpArgs false
set_option linter.unusedVariables false
namespace Go.Proofs.YtmhhjpfkipficaaDoor
open Go Go.HW

/-- A cell. -/
structure Ce where
  r : Int
  f : Int
  b : Int
  g : Int
def ce0 : Ce := ⟨0, 0, 0, 0⟩
def encCe (c : Ce) : List Value := [.int .i32 c.r, .int .i64 c.f, .int .i64 c.b, .int .i64 c.g]
def Ce.a (c : Ce) : Array Value := #[.int .i32 c.r, .int .i64 c.f, .int .i64 c.b, .int .i64 c.g]
theorem ce_enc (c : Ce) : (encCe c).toArray = c.a := rfl
theorem encCe_len (c : Ce) : (encCe c).length = 4 := rfl
theorem encCe_cell (c : Ce) : ∀ u ∈ encCe c, Cell1 u := by intro u hu; simp [encCe] at hu; rcases hu with rfl | rfl | rfl | rfl <;> trivial
theorem ce_cell (c : Ce) : ∀ u ∈ c.a.toList, Cell1 u := encCe_cell c
def grd (w h : Int) (v : Value) : Array Value := #[.int .i64 w, .int .i64 h, v]
def inG (w h x y : Int) : Bool := decide (0 ≤ x) && decide (x < w) && (decide (0 ≤ y) && decide (y < h))
theorem inG_iff {w h x y : Int} : inG w h x y = true ↔ (0 ≤ x ∧ x < w) ∧ (0 ≤ y ∧ y < h) := by simp [inG]
def cell (l : List Ce) (w h x y : Int) : Ce := if inG w h x y = true then l.getD (y * w + x).toNat ce0 else ce0
/-- A right size. -/
def szOk (w h : Int) (l : List Ce) : Prop := 1 ≤ w ∧ w ≤ 512 ∧ 1 ≤ h ∧ h ≤ 512 ∧ (l.length : Int) = w * h
theorem sz_mul {w h y : Int} (hw : 1 ≤ w ∧ w ≤ 512) (hh : h ≤ 512) (hy : 0 ≤ y ∧ y < h) : 0 ≤ y * w ∧ y * w + w ≤ h * w ∧ h * w ≤ 262144 ∧ (y + 1) * w = y * w + w := by
  have h1 : (y + 1) * w = y * w + w := by rw [Int.add_mul, Int.one_mul]
  have h2 : (y + 1) * w ≤ h * w := Int.mul_le_mul_of_nonneg_right (by omega) (by omega)
  have h3 : h * w ≤ 512 * w := Int.mul_le_mul_of_nonneg_right hh (by omega)
  exact ⟨Int.mul_nonneg hy.1 (by omega), by omega, by omega, h1⟩

section
variable {h0 h : Heap} {F : List HP} {R : Value → Heap → Prop}
def i64 (n : Int) : Prop := -9223372036854775808 ≤ n ∧ n ≤ 9223372036854775807
theorem within_spec {n m : Int} (hn : i64 n) (hm : i64 m) (H : R (.bool (decide (0 ≤ n) && decide (n < m))) h) : rect_within_c (.int .i64 n) (.int .i64 0) (.int .i64 m) h R := by
  apply rect_within_runs
  unfold rect_within_S
  simp only [ev_gt, ev_ge, ev_conv, ev_sub, ev_lt, ev_and_p, wrap_u64]
  have e : (decide (m > 0) && decide (n ≥ 0) && decide ((n % 18446744073709551616 - 0 % 18446744073709551616) % 18446744073709551616 < m % 18446744073709551616)) = (decide (0 ≤ n) && decide (n < m)) := by
    unfold i64 at hn hm
    rw [Bool.eq_iff_iff]
    simp only [Bool.and_eq_true, decide_eq_true_eq]
    omega
  rw [e]
  exact H
def allC (w h : Int) : Array Value := #[.int .i64 0, .int .i64 0, .int .i64 w, .int .i64 h]
theorem allC_cell (w h : Int) : ∀ u ∈ (allC w h).toList, Cell1 u := by intro u hu; simp [allC] at hu; rcases hu with rfl | rfl | rfl <;> trivial
theorem rin_spec {w g x y : Int} (hw : i64 w) (hg : i64 g) (hx : i64 x) (hy : i64 y) (H : ∀ h', Ext h h' → R (.bool (inG w g x y)) h') : rect_In_c (.agg (allC w g)) (.int .i64 x) (.int .i64 y) h R := by
  apply rect_In_runs
  unfold rect_In_S
  refine (HW.Sep.start h).box (c := allC w g) rfl (fun b h1 s1 => ?_)
  have f0 : ∀ {K : Value → Prop}, sLd h1 (ptr b 0) K = K (.int .i64 0) := s1.ld rfl
  have f1 : ∀ {K : Value → Prop}, sLd h1 (ptr b 1) K = K (.int .i64 0) := s1.ld rfl
  have f2 : ∀ {K : Value → Prop}, sLd h1 (ptr b 2) K = K (.int .i64 w) := s1.ld rfl
  have f3 : ∀ {K : Value → Prop}, sLd h1 (ptr b 3) K = K (.int .i64 g) := s1.ld rfl
  simp only [ev_off, Nat.zero_add, f0, f2]
  refine within_spec hx hw ?_
  refine and_ext (fun _ K' HK => by
    rw [f1, f3]
    exact within_spec hy hg (HK _ (Ext.refl _))) (fun h2 e2 => ?_)
  exact H _ (s1.ext.trans e2)
variable {b : Nat} {w g : Int} {v : Value} {l : List Ce}
theorem all_spec (s : HW.Sep h0 (Blk b (grd w g v) 89 :: F) h) (H : ∀ h', Ext h h' → R (.agg (allC w g)) h') : grid_Grid_all_c (ptr b 0) h R := by
  apply grid_Grid_all_runs
  unfold grid_Grid_all_S
  refine (HW.Sep.start h).new (fun k h1 s1 => ?_)
  have f0 : ∀ {K : Value → Prop}, sLd h1 (ptr b 0) K = K (.int .i64 w) := (s.ext' s1.ext).ld rfl
  have f1 : ∀ {K : Value → Prop}, sLd h1 (ptr b 1) K = K (.int .i64 g) := (s.ext' s1.ext).ld rfl
  simp only [ev_nil, ev_off, Nat.zero_add, f0, f1]
  refine build_intro (cs := allC w g) ⟨rfl, Nat.le_of_ble_eq_true rfl, rfl, Nat.le_of_ble_eq_true rfl, rfl⟩ ?_
  refine s1.stall (cs := allC w g) rfl rfl (allC_cell _ _) (fun h2 s2 => ?_)
  rw [s2.ldall (n := 4) rfl]
  exact H h2 s2.ext
theorem row_spec {y : Int} (s : HW.Sep h0 (Blk b (grd w g v) 89 :: Sl encCe 4 v l :: F) h) (z : szOk w g l) (hy : 0 ≤ y ∧ y < g) (H : R (HW.cutP v (y * w).toNat ((y + 1) * w).toNat 4) h) : grid_Grid_row_c (ptr b 0) (.int .i64 y) h R := by
  apply grid_Grid_row_runs
  unfold grid_Grid_row_S
  have f0 : ∀ {K : Value → Prop}, sLd h (ptr b 0) K = K (.int .i64 w) := s.ld rfl
  have f2 : ∀ {K : Value → Prop}, sLd h (ptr b 2) K = K v := s.ld rfl
  obtain ⟨z1, z2, z3, z4, z5⟩ := z
  have m := sz_mul ⟨z1, z2⟩ z4 hy
  rw [Int.mul_comm w g] at z5
  simp only [ev_nil, ev_off, Nat.zero_add, f0, f2, ev_mul, ev_add]
  rw [wrap_i64 (by omega) (by omega), wrap_i64 (x := y + 1) (by omega) (by omega), wrap_i64 (by omega) (by omega)]
  obtain ⟨i, hi⟩ : ∃ i : Nat, y * w = i := ⟨(y * w).toNat, by omega⟩
  obtain ⟨j, hj⟩ : ∃ j : Nat, (y + 1) * w = j := ⟨((y + 1) * w).toNat, by omega⟩
  rw [hi, hj] at H ⊢
  exact s.b1.seq.slK (by omega) (by omega) ⟨.i64, rfl⟩ ⟨.i64, rfl⟩ H
theorem idx {x y : Int} (z : szOk w g l) (hx : 0 ≤ x ∧ x < w) (hy : 0 ≤ y ∧ y < g) : ∃ i j k : Nat, y * w = i ∧ (y + 1) * w = j ∧ x = k ∧ i + k < j ∧ j ≤ l.length ∧ (y * w + x).toNat = i + k := by
  obtain ⟨z1, z2, z3, z4, z5⟩ := z
  have m := sz_mul ⟨z1, z2⟩ z4 hy
  rw [Int.mul_comm w g] at z5
  exact ⟨(y * w).toNat, ((y + 1) * w).toNat, x.toNat, by omega, by omega, by omega, by omega, by omega, by omega⟩
theorem cut_get {i j k : Nat} (h1 : i + k < j) (h2 : j ≤ l.length) : ((l.take j).drop i)[k]? = some (l.getD (i + k) ce0) := by
  rw [List.getElem?_drop, List.getElem?_take_of_lt h1, List.getD_eq_getElem?_getD, List.getElem?_eq_getElem (by omega)]; rfl
theorem at_spec {x y : Int} (hx : i64 x) (hy : i64 y) (s : HW.Sep h0 (Blk b (grd w g v) 89 :: Sl encCe 4 v l :: F) h) (z : szOk w g l) (H : ∀ h', Ext h h' → R (.agg (cell l w g x y).a) h') : grid_Grid_At_c (ptr b 0) (.int .i64 x) (.int .i64 y) h R := by
  apply grid_Grid_At_runs
  unfold grid_Grid_At_S
  refine (HW.Sep.start h).new (fun k h1 s1 => ?_)
  refine all_spec (s.ext' s1.ext) (fun h2 e2 => ?_)
  have zz := z
  obtain ⟨z1, z2, z3, z4, z5⟩ := zz
  refine rin_spec (by unfold i64; omega) (by unfold i64; omega) hx hy (fun h3 e3 => ?_)
  have s3 := (s1.ext' e2).ext' e3
  have sg := s.ext' s3.ext
  rw [ev_not, ev_if]
  unfold cell at H
  cases hin : inG w g x y with
  | false =>
    rw [hin, if_neg (by decide)] at H
    rw [if_pos (by decide)]
    refine build_intro (cs := ce0.a) rfl ?_
    refine s3.stall (cs := ce0.a) rfl rfl (ce_cell _) (fun h4 s4 => ?_)
    rw [s4.ldall (n := 4) rfl]
    exact H h4 s4.ext
  | true =>
    rw [hin, if_pos rfl] at H
    rw [if_neg (by decide)]
    obtain ⟨ix, iy⟩ := inG_iff.1 hin
    refine row_spec sg z iy ?_
    obtain ⟨i, j, n, e1, e2, rfl, h5, h6, e3⟩ := idx z ix iy
    rw [e3] at H
    rw [e1, e2, Int.toNat_natCast, Int.toNat_natCast]
    have q := sg.b1.seq.cutP (i := i) (j := j) (by omega) h6
    rw [q.ldn (cut_get h5 h6) rfl]
    refine s3.stall (cs := (l.getD (i + n) ce0).a) rfl rfl (ce_cell _) (fun h4 s4 => ?_)
    rw [s4.ldall (n := 4) rfl]
    exact H h4 s4.ext
def setC (l : List Ce) (w h x y : Int) (c : Ce) : List Ce := if inG w h x y = true then l.set (y * w + x).toNat c else l
theorem setC_len (l : List Ce) (w h x y : Int) (c : Ce) : (setC l w h x y c).length = l.length := by unfold setC; split <;> simp
theorem eltP_cut {i j k : Nat} (q : Seq encCe 4 h v l) (hk : i + k < j) (hj : j ≤ l.length) : eltP (HW.cutP v i j 4) k 4 = eltP v (i + k) 4 := by
  obtain ⟨a, n, m, rfl, hn, hm, h2 | ⟨b, o, rfl, hb, hc⟩⟩ := q
  · omega
  · simp only [HW.cutP, cutV]
    rw [if_neg (show ¬ m = i by omega)]
    simp only [Option.map_some, Addr.add, eltP]
    split
    · rename_i h0
      show ptr b (o + k * 4) = ptr b (o + (i + k) * 4)
      congr 1; omega
    · show ptr b (o + i * 4 + k * 4) = ptr b (o + (i + k) * 4)
      congr 1; omega
theorem set_spec {x y : Int} {c : Ce} (hx : i64 x) (hy : i64 y) (s : HW.Sep h0 (Blk b (grd w g v) 89 :: Sl encCe 4 v l :: F) h) (z : szOk w g l) (H : ∀ h', HW.Sep h0 (Blk b (grd w g v) 89 :: Sl encCe 4 v (setC l w g x y c) :: F) h' → R (.bool (inG w g x y)) h') : grid_Grid_Set_c (ptr b 0) (.int .i64 x) (.int .i64 y) (.agg c.a) h R := by
  apply grid_Grid_Set_runs
  unfold grid_Grid_Set_S
  refine (HW.Sep.start h).box (c := c.a) rfl (fun k h1 s1 => ?_)
  refine all_spec (s.ext' s1.ext) (fun h2 e2 => ?_)
  have zz := z
  obtain ⟨z1, z2, z3, z4, z5⟩ := zz
  refine rin_spec (by unfold i64; omega) (by unfold i64; omega) hx hy (fun h3 e3 => ?_)
  have s3 := (s1.ext' e2).ext' e3
  have sg := s.ext' s3.ext
  rw [ev_if]
  unfold setC at H
  unfold grid_Grid_Set_j1
  cases hin : inG w g x y with
  | false =>
    rw [hin, if_neg (by decide)] at H
    rw [if_neg (by decide)]
    exact H h3 sg
  | true =>
    rw [hin, if_pos rfl] at H
    rw [if_pos rfl]
    obtain ⟨ix, iy⟩ := inG_iff.1 hin
    refine ⟨fun h' => h'.has k c.a 31, s3.has, ?_⟩
    refine row_spec sg z iy ⟨s3.has, ?_⟩
    have cA : ∀ {K : Value → Prop}, sLdNC (fun h' => h'.has k c.a 31) (ptr k 0) 4 K = K (.agg c.a) := fun {K} => ldnc_all (C := fun h' => h'.has k c.a 31) (h0 := h3) s3.has rfl (fun _ x => x)
    rw [cA]
    obtain ⟨i, j, n, e1, e2, rfl, h5, h6, e3⟩ := idx z ix iy
    rw [e3] at H
    rw [e1, e2, Int.toNat_natCast, Int.toNat_natCast]
    have q := sg.b1.seq
    have qc := q.cutP (i := i) (j := j) (by omega) h6
    rw [qc.elt (by rw [List.length_drop, List.length_take]; omega), eltP_cut q h5 h6]
    exact sg.b1.setn encCe_len encCe_cell (by omega) c (fun h4 s4 => H h4 s4.b1)
theorem new_spec {w g : Int} (hw : i64 w) (hg : i64 g) (H0 : ¬(1 ≤ w ∧ w ≤ 512 ∧ 1 ≤ g ∧ g ≤ 512) → R (.pointer none) h) (H1 : (1 ≤ w ∧ w ≤ 512 ∧ 1 ≤ g ∧ g ≤ 512) → ∀ b v h', szOk w g (List.replicate (w * g).toNat ce0) → HW.Sep h [Blk b (grd w g v) 89, Sl encCe 4 v (List.replicate (w * g).toNat ce0)] h' → R (ptr b 0) h') : grid_New_c (.int .i64 w) (.int .i64 g) h R := by
  apply grid_New_runs
  unfold grid_New_S
  simp only [ev_lt, ev_gt, ev_or_p, ev_if, Bool.or_eq_true, decide_eq_true_eq]
  by_cases hc : 1 ≤ w ∧ w ≤ 512 ∧ 1 ≤ g ∧ g ≤ 512
  · rw [if_neg (by omega)]
    have m := sz_mul (w := w) (h := g) (y := 0) ⟨hc.1, hc.2.1⟩ hc.2.2.2 ⟨by omega, by omega⟩
    rw [Int.mul_comm g w] at m
    have m0 : 0 ≤ w * g := Int.mul_nonneg (by omega) (by omega)
    rw [ev_mul, wrap_i64 (by omega) (by omega)]
    refine (HW.Sep.start h).make (enc := encCe) (sz := 4) encCe_len ce0 rfl (w * g).toNat (w * g).toNat (by omega) (by omega) (Nat.le_refl _) (by omega) (by omega) (fun v h2 cv s2 => ?_)
    obtain ⟨va, vn, vm, rfl, _⟩ := s2.seq
    refine build_intro (cs := grd w g (.slice va vn vm)) ⟨rfl, Nat.le_of_ble_eq_true rfl, rfl, Nat.le_of_ble_eq_true rfl, rfl, Nat.le_of_ble_eq_true rfl, rfl⟩ ?_
    refine s2.box (c := grd w g (.slice va vn vm)) rfl (fun b h3 s3 => ?_)
    exact H1 hc b _ h3 ⟨hc.1, hc.2.1, hc.2.2.1, hc.2.2.2, by rw [List.length_replicate]; omega⟩ s3
  · rw [if_pos (by omega)]
    exact H0 hc
theorem clone_cells {F : List HP} (q : HW.Rd encCe 4 h0 F v l) (s : HW.Sep h0 F h) (hl : 1 ≤ l.length) (hl2 : l.length ≤ 262144) (H : ∀ v' h', Cell1 v' → HW.Sep h0 (Sl encCe 4 v' l :: F) h' → R v' h') : slices_Clone_api_Cell_api_Cell_c v h R := by
  apply slices_Clone_api_Cell_api_Cell_runs
  unfold slices_Clone_api_Cell_api_Cell_S
  have q0 := q.at0 s
  obtain ⟨a, n, m, rfl, hn, hm, h2 | ⟨b, o, rfl, hb, hc⟩⟩ := q0
  · omega
  · rw [ev_eqlNilS, Option.isNone_some, ev_if, if_neg (by decide)]
    refine s.slit (enc := encCe) (sz := 4) encCe_len [] rfl rfl (fun a h1 _ s1 => ?_)
    refine s1.app (enc := encCe) (sz := 4) rfl (by decide) encCe_len encCe_cell (q.at1 s1) (by simp only [List.length_nil]; omega) (by decide) (fun v' h2 c2 s2 => ?_)
    exact H v' h2 c2 s2
end
end Go.Proofs.YtmhhjpfkipficaaDoor


end

section
/- The shallow reading of one function, and that the function does it. Written by a program. -/
set_option linter.unusedVariables false
namespace Go.Proofs.YtmhhjpfkipficaaDoor
open Go Go.HW _root_.Go.Proofs.Tryd

def rect_near_S (x0 : Value) (h : Heap) (R : Value → Heap → Prop) : Prop :=
  sGe x0 (.int .i64 (-1073741824)) fun x4 =>
  sAnd x4 (fun k =>
  sLe x0 (.int .i64 1073741824) fun x7 =>
  k x7) fun x8 =>
  R x8 h
set_option maxRecDepth 100000 in
theorem rect_near_runs {x0 : Value} {h : Heap} {R : Value → Heap → Prop} (H : rect_near_S x0 h R) : rect_near_c x0 h R := by
 unfold rect_near_S at H
 refine runsof (b := (mk (Ap [x0] 8))) call104 func104 rfl fun w0 HA => wp_seq (lwp_list ?_)
 refine lsassign (.bool false) <| ls_nil (then_normal ?_)
 refine freq (mk (Ap [x0,ud,(.bool false)] 6)) <| wp_seq (lwp_list ?_)
 refine lsmove x0 <| lsp 4 (psGe H) fun x4 H => lsmove x4 <| ls_and [(),(),()] (fun K a w => ∃ (D : Nat → Value) (x8 : Value),a = (mk [x0,ud,(.bool false),x0,x4,x4,(D 0),(D 1),x8]) ∧ At w0 w h ∧ K x8) H (fun hb H => ?_) (fun hb H => ?_) ?_
 ·refine lsmove (hg := by rw [hb]; kernel_rfl) x0 <| lsp (hg := by rw [hb]; kernel_rfl) 7 (psLe H) fun x7 H => lspickt x7 (by rw [hb]; kernel_rfl) <| ls_nil (then_normal ?_)
  exact ⟨(gd ([x0,x7])),x7,by kernel_rfl,HA,H⟩
 ·refine lsskip (hg := by rw [hb]; kernel_rfl) 6 <| lsskip (hg := by rw [hb]; kernel_rfl) 7 <| lspickf (.bool false) (by rw [hb]; kernel_rfl) <| ls_nil (then_normal ?_)
  exact ⟨(gd ([ud,ud])),(.bool false),by kernel_rfl,HA,H⟩
 ·rintro _ w ⟨D,x8,rfl,HA,H⟩
  refine lsassign x8 <| ls_nil (then_normal ?_)
  refine freq (mk [x0,ud,x8,x0,x4,x4,(D 0),(D 1),x8]) <| wp_ret <| end1 (results104) (by kernel_rfl) (by kernel_rfl) HA H _ (.inr rfl)

end Go.Proofs.YtmhhjpfkipficaaDoor


end

section
/- The shallow reading of one function, and that the function does it. Written by a program. -/
set_option linter.unusedVariables false
namespace Go.Proofs.YtmhhjpfkipficaaDoor
open Go Go.HW _root_.Go.Proofs.Tryd

def rect_Right_S (x0 : Value) (h : Heap) (R : Value → Heap → Prop) : Prop :=
  sBox h x0 83 fun x1 h => 
  sOff x1 0 fun x3 =>
  sLd h x3 fun x4 =>
  rect_near_c x4 h fun x5 h_1 => 
  sAndH x5 h_1 (fun k_4 =>
  sOff x1 1 fun x7 =>
  sLd h_1 x7 fun x8 =>
  rect_near_c x8 h_1 fun x9 h_7 => 
  k_4 x9 h_7) fun x10 h_2 =>
  sAndH x10 h_2 (fun k_3 =>
  sOff x1 2 fun x12 =>
  sLd h_2 x12 fun x13 =>
  rect_near_c x13 h_2 fun x14 h_6 => 
  k_3 x14 h_6) fun x15 h_3 =>
  sAndH x15 h_3 (fun k_2 =>
  sOff x1 3 fun x17 =>
  sLd h_3 x17 fun x18 =>
  rect_near_c x18 h_3 fun x19 h_5 => 
  k_2 x19 h_5) fun x20 h_4 =>
  sAnd x20 (fun k_1 =>
  sOff x1 2 fun x22 =>
  sLd h_4 x22 fun x23 =>
  sGe x23 (.int .i64 0) fun x24 =>
  k_1 x24) fun x25 =>
  sAnd x25 (fun k =>
  sOff x1 3 fun x27 =>
  sLd h_4 x27 fun x28 =>
  sGe x28 (.int .i64 0) fun x29 =>
  k x29) fun x30 =>
  R x30 h_4
set_option maxRecDepth 100000 in
theorem rect_Right_runs {x0 : Value} {h : Heap} {R : Value → Heap → Prop} (H : rect_Right_S x0 h R) : rect_Right_c x0 h R := by
 unfold rect_Right_S at H
 refine runsof (b := (mk (Ap [x0] 30))) call100 func100 rfl fun w0 HA => wp_seq (lwp_list ?_)
 refine lsd 1 HA (dbox H) fun x1 h w H HA => lsassign (.bool false) <| ls_nil (then_normal ?_)
 refine freq (mk (Ap [x0,x1,(.bool false)] 28)) <| wp_seq (lwp_list ?_)
 refine lsp 3 (poff underlying83 rfl sizeOf3 rfl H) fun x3 H => lsy 4 HA (yld isAgg3 H) fun x4 H => lsd 5 HA (dcall H) fun x5 h_1 w_1 H HA_1 => lsmove x5 <| ls_andh [(),(),(),()] (fun K a w => ∃ (D : Nat → Value) (x10 : Value) (h_2 : Heap),a = (mk (Ap [x0,x1,(.bool false),x3,x4,x5,x5,(D 0),(D 1),(D 2),x10] 20)) ∧ At w0 w h_2 ∧ K x10 h_2) H (fun hb_4 H => ?_) (fun hb_4 H => ?_) ?_
 ·refine lsp (hg := by rw [hb_4]; kernel_rfl) 7 (poff underlying83 rfl sizeOf3 rfl H) fun x7 H => lsy (hg := by rw [hb_4]; kernel_rfl) 8 HA_1 (yld isAgg3 H) fun x8 H => lsd (hg := by rw [hb_4]; kernel_rfl) 9 HA_1 (dcall H) fun x9 h_7 w_9 H HA_9 => lspickt x9 (by rw [hb_4]; kernel_rfl) <| ls_nil (then_normal ?_)
  exact ⟨(gd ([x7,x8,x9])),x9,h_7,by kernel_rfl,HA_9,H⟩
 ·refine lsskip (hg := by rw [hb_4]; kernel_rfl) 7 <| lsskip (hg := by rw [hb_4]; kernel_rfl) 8 <| lsskip (hg := by rw [hb_4]; kernel_rfl) 9 <| lspickf (.bool false) (by rw [hb_4]; kernel_rfl) <| ls_nil (then_normal ?_)
  exact ⟨(gd ([ud,ud,ud])),(.bool false),h_1,by kernel_rfl,HA_1,H⟩
 ·rintro _ w_2 ⟨D,x10,h_2,rfl,HA_2,H⟩
  refine lsmove x10 <| ls_andh [(),(),(),()] (fun K a w => ∃ (D_1 : Nat → Value) (x15 : Value) (h_3 : Heap),a = (mk (Ap [x0,x1,(.bool false),x3,x4,x5,x5,(D 0),(D 1),(D 2),x10,x10,(D_1 0),(D_1 1),(D_1 2),x15] 15)) ∧ At w0 w h_3 ∧ K x15 h_3) H (fun hb_3 H => ?_) (fun hb_3 H => ?_) ?_
  ·refine lsp (hg := by rw [hb_3]; kernel_rfl) 12 (poff underlying83 rfl sizeOf3 rfl H) fun x12 H => lsy (hg := by rw [hb_3]; kernel_rfl) 13 HA_2 (yld isAgg3 H) fun x13 H => lsd (hg := by rw [hb_3]; kernel_rfl) 14 HA_2 (dcall H) fun x14 h_6 w_8 H HA_8 => lspickt x14 (by rw [hb_3]; kernel_rfl) <| ls_nil (then_normal ?_)
   exact ⟨(gd ([x12,x13,x14])),x14,h_6,by kernel_rfl,HA_8,H⟩
  ·refine lsskip (hg := by rw [hb_3]; kernel_rfl) 12 <| lsskip (hg := by rw [hb_3]; kernel_rfl) 13 <| lsskip (hg := by rw [hb_3]; kernel_rfl) 14 <| lspickf (.bool false) (by rw [hb_3]; kernel_rfl) <| ls_nil (then_normal ?_)
   exact ⟨(gd ([ud,ud,ud])),(.bool false),h_2,by kernel_rfl,HA_2,H⟩
  ·rintro _ w_3 ⟨D_1,x15,h_3,rfl,HA_3,H⟩
   refine lsmove x15 <| ls_andh [(),(),(),()] (fun K a w => ∃ (D_2 : Nat → Value) (x20 : Value) (h_4 : Heap),a = (mk (Ap [x0,x1,(.bool false),x3,x4,x5,x5,(D 0),(D 1),(D 2),x10,x10,(D_1 0),(D_1 1),(D_1 2),x15,x15,(D_2 0),(D_2 1),(D_2 2),x20] 10)) ∧ At w0 w h_4 ∧ K x20 h_4) H (fun hb_2 H => ?_) (fun hb_2 H => ?_) ?_
   ·refine lsp (hg := by rw [hb_2]; kernel_rfl) 17 (poff underlying83 rfl sizeOf3 rfl H) fun x17 H => lsy (hg := by rw [hb_2]; kernel_rfl) 18 HA_3 (yld isAgg3 H) fun x18 H => lsd (hg := by rw [hb_2]; kernel_rfl) 19 HA_3 (dcall H) fun x19 h_5 w_7 H HA_7 => lspickt x19 (by rw [hb_2]; kernel_rfl) <| ls_nil (then_normal ?_)
    exact ⟨(gd ([x17,x18,x19])),x19,h_5,by kernel_rfl,HA_7,H⟩
   ·refine lsskip (hg := by rw [hb_2]; kernel_rfl) 17 <| lsskip (hg := by rw [hb_2]; kernel_rfl) 18 <| lsskip (hg := by rw [hb_2]; kernel_rfl) 19 <| lspickf (.bool false) (by rw [hb_2]; kernel_rfl) <| ls_nil (then_normal ?_)
    exact ⟨(gd ([ud,ud,ud])),(.bool false),h_3,by kernel_rfl,HA_3,H⟩
   ·rintro _ w_4 ⟨D_2,x20,h_4,rfl,HA_4,H⟩
    refine lsmove x20 <| ls_and [(),(),(),()] (fun K a w => ∃ (D_3 : Nat → Value) (x25 : Value),a = (mk (Ap [x0,x1,(.bool false),x3,x4,x5,x5,(D 0),(D 1),(D 2),x10,x10,(D_1 0),(D_1 1),(D_1 2),x15,x15,(D_2 0),(D_2 1),(D_2 2),x20,x20,(D_3 0),(D_3 1),(D_3 2),x25] 5)) ∧ At w0 w h_4 ∧ K x25) H (fun hb_1 H => ?_) (fun hb_1 H => ?_) ?_
    ·refine lsp (hg := by rw [hb_1]; kernel_rfl) 22 (poff underlying83 rfl sizeOf3 rfl H) fun x22 H => lsy (hg := by rw [hb_1]; kernel_rfl) 23 HA_4 (yld isAgg3 H) fun x23 H => lsp (hg := by rw [hb_1]; kernel_rfl) 24 (psGe H) fun x24 H => lspickt x24 (by rw [hb_1]; kernel_rfl) <| ls_nil (then_normal ?_)
     exact ⟨(gd ([x22,x23,x24])),x24,by kernel_rfl,HA_4,H⟩
    ·refine lsskip (hg := by rw [hb_1]; kernel_rfl) 22 <| lsskip (hg := by rw [hb_1]; kernel_rfl) 23 <| lsskip (hg := by rw [hb_1]; kernel_rfl) 24 <| lspickf (.bool false) (by rw [hb_1]; kernel_rfl) <| ls_nil (then_normal ?_)
     exact ⟨(gd ([ud,ud,ud])),(.bool false),by kernel_rfl,HA_4,H⟩
    ·rintro _ w_5 ⟨D_3,x25,rfl,HA_5,H⟩
     refine lsmove x25 <| ls_and [(),(),(),()] (fun K a w => ∃ (D_4 : Nat → Value) (x30 : Value),a = (mk [x0,x1,(.bool false),x3,x4,x5,x5,(D 0),(D 1),(D 2),x10,x10,(D_1 0),(D_1 1),(D_1 2),x15,x15,(D_2 0),(D_2 1),(D_2 2),x20,x20,(D_3 0),(D_3 1),(D_3 2),x25,x25,(D_4 0),(D_4 1),(D_4 2),x30]) ∧ At w0 w h_4 ∧ K x30) H (fun hb H => ?_) (fun hb H => ?_) ?_
     ·refine lsp (hg := by rw [hb]; kernel_rfl) 27 (poff underlying83 rfl sizeOf3 rfl H) fun x27 H => lsy (hg := by rw [hb]; kernel_rfl) 28 HA_5 (yld isAgg3 H) fun x28 H => lsp (hg := by rw [hb]; kernel_rfl) 29 (psGe H) fun x29 H => lspickt x29 (by rw [hb]; kernel_rfl) <| ls_nil (then_normal ?_)
      exact ⟨(gd ([x27,x28,x29])),x29,by kernel_rfl,HA_5,H⟩
     ·refine lsskip (hg := by rw [hb]; kernel_rfl) 27 <| lsskip (hg := by rw [hb]; kernel_rfl) 28 <| lsskip (hg := by rw [hb]; kernel_rfl) 29 <| lspickf (.bool false) (by rw [hb]; kernel_rfl) <| ls_nil (then_normal ?_)
      exact ⟨(gd ([ud,ud,ud])),(.bool false),by kernel_rfl,HA_5,H⟩
     ·rintro _ w_6 ⟨D_4,x30,rfl,HA_6,H⟩
      refine lsassign x30 <| ls_nil (then_normal ?_)
      refine freq (mk [x0,x1,x30,x3,x4,x5,x5,(D 0),(D 1),(D 2),x10,x10,(D_1 0),(D_1 1),(D_1 2),x15,x15,(D_2 0),(D_2 1),(D_2 2),x20,x20,(D_3 0),(D_3 1),(D_3 2),x25,x25,(D_4 0),(D_4 1),(D_4 2),x30]) <| wp_ret <| end1 (results100) (by kernel_rfl) (by kernel_rfl) HA_6 H _ (.inr rfl)

end Go.Proofs.YtmhhjpfkipficaaDoor


end

section
/- The shallow reading of one function, and that the function does it. Written by a program. -/
set_option linter.unusedVariables false
namespace Go.Proofs.YtmhhjpfkipficaaDoor
open Go Go.HW _root_.Go.Proofs.Tryd

def rect_Empty_S (x0 : Value) (h : Heap) (R : Value → Heap → Prop) : Prop :=
  sBox h x0 83 fun x1 h => 
  sOff x1 2 fun x3 =>
  sLd h x3 fun x4 =>
  sLt x4 (.int .i64 1) fun x5 =>
  sOr x5 (fun k =>
  sOff x1 3 fun x7 =>
  sLd h x7 fun x8 =>
  sLt x8 (.int .i64 1) fun x9 =>
  k x9) fun x10 =>
  R x10 h
set_option maxRecDepth 100000 in
theorem rect_Empty_runs {x0 : Value} {h : Heap} {R : Value → Heap → Prop} (H : rect_Empty_S x0 h R) : rect_Empty_c x0 h R := by
 unfold rect_Empty_S at H
 refine runsof (b := (mk (Ap [x0] 10))) call102 func102 rfl fun w0 HA => wp_seq (lwp_list ?_)
 refine lsd 1 HA (dbox H) fun x1 h w H HA => lsassign (.bool false) <| ls_nil (then_normal ?_)
 refine freq (mk (Ap [x0,x1,(.bool false)] 8)) <| wp_seq (lwp_list ?_)
 refine lsp 3 (poff underlying83 rfl sizeOf3 rfl H) fun x3 H => lsy 4 HA (yld isAgg3 H) fun x4 H => lsp 5 (psLt H) fun x5 H => lsmove x5 <| ls_or [(),(),(),()] (fun K a w => ∃ (D : Nat → Value) (x10 : Value),a = (mk [x0,x1,(.bool false),x3,x4,x5,x5,(D 0),(D 1),(D 2),x10]) ∧ At w0 w h ∧ K x10) H (fun hb H => ?_) (fun hb H => ?_) ?_
 ·refine lsp (hg := by rw [hb]; kernel_rfl) 7 (poff underlying83 rfl sizeOf3 rfl H) fun x7 H => lsy (hg := by rw [hb]; kernel_rfl) 8 HA (yld isAgg3 H) fun x8 H => lsp (hg := by rw [hb]; kernel_rfl) 9 (psLt H) fun x9 H => lspickf x9 (by rw [hb]; kernel_rfl) <| ls_nil (then_normal ?_)
  exact ⟨(gd ([x7,x8,x9])),x9,by kernel_rfl,HA,H⟩
 ·refine lsskip (hg := by rw [hb]; kernel_rfl) 7 <| lsskip (hg := by rw [hb]; kernel_rfl) 8 <| lsskip (hg := by rw [hb]; kernel_rfl) 9 <| lspickt (.bool true) (by rw [hb]; kernel_rfl) <| ls_nil (then_normal ?_)
  exact ⟨(gd ([ud,ud,ud])),(.bool true),by kernel_rfl,HA,H⟩
 ·rintro _ w_1 ⟨D,x10,rfl,HA_1,H⟩
  refine lsassign x10 <| ls_nil (then_normal ?_)
  refine freq (mk [x0,x1,x10,x3,x4,x5,x5,(D 0),(D 1),(D 2),x10]) <| wp_ret <| end1 (results102) (by kernel_rfl) (by kernel_rfl) HA_1 H _ (.inr rfl)

end Go.Proofs.YtmhhjpfkipficaaDoor


end

section
/- The shallow reading of one function, and that the function does it. Written by a program. -/
set_option linter.unusedVariables false
namespace Go.Proofs.YtmhhjpfkipficaaDoor
open Go Go.HW _root_.Go.Proofs.Tryd

def rect_of_S (x0 x1 x2 x3 : Value) (h : Heap) (R : Value → Heap → Prop) : Prop :=
  sNew h #[.int .i64 0, .int .i64 0, .int .i64 0, .int .i64 0] 83 fun x8 h => 
  sLe x2 x0 fun x11 =>
  sOr x11 (fun k =>
  sLe x3 x1 fun x15 =>
  k x15) fun x16 =>
  sIf x16 (sBuild #[.int .i64 0, .int .i64 0, .int .i64 0, .int .i64 0] [] fun x17 =>
  sStN h x8 x17 4 fun h_1 => 
  sLdN h_1 x8 4 fun r8 =>
  R r8 h_1) (sSub .i64 x2 x0 fun x22 =>
  sSub .i64 x3 x1 fun x25 =>
  sBuild #[.int .i64 0, .int .i64 0, .int .i64 0, .int .i64 0] [(0, 1, x0), (1, 1, x1), (2, 1, x22), (3, 1, x25)] fun x26 =>
  sStN h x8 x26 4 fun h_2 => 
  sLdN h_2 x8 4 fun r8_1 =>
  R r8_1 h_2)
set_option maxRecDepth 100000 in
theorem rect_of_runs {x0 x1 x2 x3 : Value} {h : Heap} {R : Value → Heap → Prop} (H : rect_of_S x0 x1 x2 x3 h R) : rect_of_c x0 x1 x2 x3 h R := by
 unfold rect_of_S at H
 refine runsof (b := (mk (Ap [x0,x1,x2,x3] 23))) call101 func101 rfl fun w0 HA => wp_seq (lwp_list ?_)
 refine lsd 8 HA (d_alloc zeroValue83 H) fun x8 h w H HA => ls_nil (then_normal ?_)
 refine freq (mk (Aq [x0,x1,x2,x3] 4 (Ap [x8] 18))) <| wp_seq <| wp_seq (lwp_list ?_)
 refine lsmove x2 <| lsmove x0 <| lsp 11 (psLe H) fun x11 H => lsmove x11 <| ls_or [(),(),(),()] (fun K a w => ∃ (D : Nat → Value) (x16 : Value),a = (mk (Aq [x0,x1,x2,x3] 4 (Ap [x8,x2,x0,x11,x11,(D 0),(D 1),(D 2),x16] 10))) ∧ At w0 w h ∧ K x16) H (fun hb H => ?_) (fun hb H => ?_) ?_
 ·refine lsmove (hg := by rw [hb]; kernel_rfl) x3 <| lsmove (hg := by rw [hb]; kernel_rfl) x1 <| lsp (hg := by rw [hb]; kernel_rfl) 15 (psLe H) fun x15 H => lspickf x15 (by rw [hb]; kernel_rfl) <| ls_nil (then_normal ?_)
  exact ⟨(gd ([x3,x1,x15])),x15,by kernel_rfl,HA,H⟩
 ·refine lsskip (hg := by rw [hb]; kernel_rfl) 13 <| lsskip (hg := by rw [hb]; kernel_rfl) 14 <| lsskip (hg := by rw [hb]; kernel_rfl) 15 <| lspickt (.bool true) (by rw [hb]; kernel_rfl) <| ls_nil (then_normal ?_)
  exact ⟨(gd ([ud,ud,ud])),(.bool true),by kernel_rfl,HA,H⟩
 ·rintro _ w_1 ⟨D,x16,rfl,HA_1,H⟩
  refine ls_nil (then_normal ?_)
  refine freq (mk (Aq [x0,x1,x2,x3] 4 (Ap [x8,x2,x0,x11,x11,(D 0),(D 1),(D 2),x16] 10))) <| wp_if rfl H (fun H => ?_) (fun H => ?_)
  ·refine wp_seq (lwp_list ?_)
   refine lsp 17 (plit (pl := [(0,1),(1,1),(2,1),(3,1)]) zeroValue83 underlying83 ⟨(by kernel_rfl),sizeOf3,(by kernel_rfl),sizeOf3,(by kernel_rfl),sizeOf3,(by kernel_rfl),sizeOf3,trivial⟩ H) fun x17 H => lsdn HA_1 (dstn sizeOf83 H) fun _ h_1 w_2 H HA_2 => ls_nil (then_normal ?_)
   refine freq (mk (Aq [x0,x1,x2,x3] 4 (Ap [x8,x2,x0,x11,x11,(D 0),(D 1),(D 2),x16,x17] 9))) <| wp_ret <| then_ret ?_
   obtain ⟨r8,hr8,H⟩ := ld_n isAgg83 sizeOf83 H
   exact endR (vs := [r8]) (results101) (by kernel_rfl) ⟨⟨_,(by kernel_rfl),hr8⟩, trivial⟩ HA_2 H _ (.inr rfl)
  ·refine wp_skip <| then_normal <| freq (mk (Aq [x0,x1,x2,x3] 4 (Ap [x8,x2,x0,x11,x11,(D 0),(D 1),(D 2),x16] 10))) <| wp_seq (lwp_list ?_)
   refine lsmove x0 <| lsmove x1 <| lsmove x2 <| lsmove x0 <| lsp 22 (psub H) fun x22 H => lsmove x3 <| lsmove x1 <| lsp 25 (psub H) fun x25 H => lsp 26 (plit (pl := [(0,1),(1,1),(2,1),(3,1)]) zeroValue83 underlying83 ⟨(by kernel_rfl),sizeOf3,(by kernel_rfl),sizeOf3,(by kernel_rfl),sizeOf3,(by kernel_rfl),sizeOf3,trivial⟩ H) fun x26 H => lsdn HA_1 (dstn sizeOf83 H) fun _ h_2 w_3 H HA_3 => ls_nil (then_normal ?_)
   refine freq (mk (Aq [x0,x1,x2,x3] 4 [x8,x2,x0,x11,x11,(D 0),(D 1),(D 2),x16,ud,x0,x1,x2,x0,x22,x3,x1,x25,x26])) <| wp_ret ?_
   obtain ⟨r8_1,hr8_1,H⟩ := ld_n isAgg83 sizeOf83 H
   exact endR (vs := [r8_1]) (results101) (by kernel_rfl) ⟨⟨_,(by kernel_rfl),hr8_1⟩, trivial⟩ HA_3 H _ (.inr rfl)

end Go.Proofs.YtmhhjpfkipficaaDoor


end

section
/- The shallow reading of one function, and that the function does it. Written by a program. -/
set_option linter.unusedVariables false
namespace Go.Proofs.YtmhhjpfkipficaaDoor
open Go Go.HW _root_.Go.Proofs.Tryd

def rect_Both_S (x0 x1 : Value) (h : Heap) (R : Value → Heap → Prop) : Prop :=
  sBox h x0 83 fun x2 h => 
  sBox h x1 83 fun x3 h_1 => 
  sNew h_1 #[.int .i64 0, .int .i64 0, .int .i64 0, .int .i64 0] 83 fun x4 h_2 => 
  sLdN h_2 x2 4 fun x5 =>
  rect_Right_c x5 h_2 fun x6 h_3 => 
  sNot x6 fun x7 =>
  sOrH x7 h_3 (fun k =>
  sLdN h_3 x3 4 fun x9 =>
  rect_Right_c x9 h_3 fun x10 h_8 => 
  sNot x10 fun x11 =>
  k x11 h_8) fun x12 h_4 =>
  sIf x12 (sBuild #[.int .i64 0, .int .i64 0, .int .i64 0, .int .i64 0] [] fun x13 =>
  sStN h_4 x4 x13 4 fun h_5 => 
  sLdN h_5 x4 4 fun r4 =>
  R r4 h_5) (sOff x2 0 fun x14 =>
  sLd h_4 x14 fun x15 =>
  sOff x3 0 fun x16 =>
  sLd h_4 x16 fun x17 =>
  sMax x15 x17 fun x18 =>
  sOff x2 1 fun x19 =>
  sLd h_4 x19 fun x20 =>
  sOff x3 1 fun x21 =>
  sLd h_4 x21 fun x22 =>
  sMax x20 x22 fun x23 =>
  sOff x2 0 fun x24 =>
  sLd h_4 x24 fun x25 =>
  sOff x2 2 fun x26 =>
  sLd h_4 x26 fun x27 =>
  sAdd .i64 x25 x27 fun x28 =>
  sOff x3 0 fun x29 =>
  sLd h_4 x29 fun x30 =>
  sOff x3 2 fun x31 =>
  sLd h_4 x31 fun x32 =>
  sAdd .i64 x30 x32 fun x33 =>
  sMin x28 x33 fun x34 =>
  sOff x2 1 fun x35 =>
  sLd h_4 x35 fun x36 =>
  sOff x2 3 fun x37 =>
  sLd h_4 x37 fun x38 =>
  sAdd .i64 x36 x38 fun x39 =>
  sOff x3 1 fun x40 =>
  sLd h_4 x40 fun x41 =>
  sOff x3 3 fun x42 =>
  sLd h_4 x42 fun x43 =>
  sAdd .i64 x41 x43 fun x44 =>
  sMin x39 x44 fun x45 =>
  rect_of_c x18 x23 x34 x45 h_4 fun x46 h_6 => 
  sStN h_6 x4 x46 4 fun h_7 => 
  sLdN h_7 x4 4 fun r4_1 =>
  R r4_1 h_7)
set_option maxRecDepth 100000 in
theorem rect_Both_runs {x0 x1 : Value} {h : Heap} {R : Value → Heap → Prop} (H : rect_Both_S x0 x1 h R) : rect_Both_c x0 x1 h R := by
 unfold rect_Both_S at H
 refine runsof (b := (mk (Ap [x0,x1] 45))) call91 func91 rfl fun w0 HA => wp_seq (lwp_list ?_)
 refine lsd 2 HA (dbox H) fun x2 h w H HA => lsd 3 HA (dbox H) fun x3 h_1 w_1 H HA_1 => lsd 4 HA_1 (d_alloc zeroValue83 H) fun x4 h_2 w_2 H HA_2 => ls_nil (then_normal ?_)
 refine freq (mk (Ap [x0,x1,x2,x3,x4] 42)) <| wp_seq <| wp_seq (lwp_list ?_)
 refine lsy 5 HA_2 (yldn isAgg83 sizeOf83 H) fun x5 H => lsd 6 HA_2 (dcall H) fun x6 h_3 w_3 H HA_3 => lsp 7 (pnot H) fun x7 H => lsmove x7 <| ls_orh [(),(),(),()] (fun K a w => ∃ (D : Nat → Value) (x12 : Value) (h_4 : Heap),a = (mk (Ap [x0,x1,x2,x3,x4,x5,x6,x7,x7,(D 0),(D 1),(D 2),x12] 34)) ∧ At w0 w h_4 ∧ K x12 h_4) H (fun hb H => ?_) (fun hb H => ?_) ?_
 ·refine lsy (hg := by rw [hb]; kernel_rfl) 9 HA_3 (yldn isAgg83 sizeOf83 H) fun x9 H => lsd (hg := by rw [hb]; kernel_rfl) 10 HA_3 (dcall H) fun x10 h_8 w_8 H HA_8 => lsp (hg := by rw [hb]; kernel_rfl) 11 (pnot H) fun x11 H => lspickf x11 (by rw [hb]; kernel_rfl) <| ls_nil (then_normal ?_)
  exact ⟨(gd ([x9,x10,x11])),x11,h_8,by kernel_rfl,HA_8,H⟩
 ·refine lsskip (hg := by rw [hb]; kernel_rfl) 9 <| lsskip (hg := by rw [hb]; kernel_rfl) 10 <| lsskip (hg := by rw [hb]; kernel_rfl) 11 <| lspickt (.bool true) (by rw [hb]; kernel_rfl) <| ls_nil (then_normal ?_)
  exact ⟨(gd ([ud,ud,ud])),(.bool true),h_3,by kernel_rfl,HA_3,H⟩
 ·rintro _ w_4 ⟨D,x12,h_4,rfl,HA_4,H⟩
  refine ls_nil (then_normal ?_)
  refine freq (mk (Ap [x0,x1,x2,x3,x4,x5,x6,x7,x7,(D 0),(D 1),(D 2),x12] 34)) <| wp_if rfl H (fun H => ?_) (fun H => ?_)
  ·refine wp_seq (lwp_list ?_)
   refine lsp 13 (plit (pl := [(0,1),(1,1),(2,1),(3,1)]) zeroValue83 underlying83 ⟨(by kernel_rfl),sizeOf3,(by kernel_rfl),sizeOf3,(by kernel_rfl),sizeOf3,(by kernel_rfl),sizeOf3,trivial⟩ H) fun x13 H => lsdn HA_4 (dstn sizeOf83 H) fun _ h_5 w_5 H HA_5 => ls_nil (then_normal ?_)
   refine freq (mk (Ap [x0,x1,x2,x3,x4,x5,x6,x7,x7,(D 0),(D 1),(D 2),x12,x13] 33)) <| wp_ret <| then_ret ?_
   obtain ⟨r4,hr4,H⟩ := ld_n isAgg83 sizeOf83 H
   exact endR (vs := [r4]) (results91) (by kernel_rfl) ⟨⟨_,(by kernel_rfl),hr4⟩, trivial⟩ HA_5 H _ (.inr rfl)
  ·refine wp_skip <| then_normal <| freq (mk (Ap [x0,x1,x2,x3,x4,x5,x6,x7,x7,(D 0),(D 1),(D 2),x12] 34)) <| wp_seq (lwp_list ?_)
   refine lsp 14 (poff underlying83 rfl sizeOf3 rfl H) fun x14 H => lsy 15 HA_4 (yld isAgg3 H) fun x15 H => lsp 16 (poff underlying83 rfl sizeOf3 rfl H) fun x16 H => lsy 17 HA_4 (yld isAgg3 H) fun x17 H => lsp 18 (pmax H) fun x18 H => lsp 19 (poff underlying83 rfl sizeOf3 rfl H) fun x19 H => lsy 20 HA_4 (yld isAgg3 H) fun x20 H => lsp 21 (poff underlying83 rfl sizeOf3 rfl H) fun x21 H => lsy 22 HA_4 (yld isAgg3 H) fun x22 H => lsp 23 (pmax H) fun x23 H => lsp 24 (poff underlying83 rfl sizeOf3 rfl H) fun x24 H => lsy 25 HA_4 (yld isAgg3 H) fun x25 H => lsp 26 (poff underlying83 rfl sizeOf3 rfl H) fun x26 H => lsy 27 HA_4 (yld isAgg3 H) (fun x27 H => ?_)
   refine lsp 28 (padd H) fun x28 H => lsp 29 (poff underlying83 rfl sizeOf3 rfl H) fun x29 H => lsy 30 HA_4 (yld isAgg3 H) fun x30 H => lsp 31 (poff underlying83 rfl sizeOf3 rfl H) fun x31 H => lsy 32 HA_4 (yld isAgg3 H) fun x32 H => lsp 33 (padd H) fun x33 H => lsp 34 (pmin H) fun x34 H => lsp 35 (poff underlying83 rfl sizeOf3 rfl H) fun x35 H => lsy 36 HA_4 (yld isAgg3 H) fun x36 H => lsp 37 (poff underlying83 rfl sizeOf3 rfl H) fun x37 H => lsy 38 HA_4 (yld isAgg3 H) fun x38 H => lsp 39 (padd H) fun x39 H => lsp 40 (poff underlying83 rfl sizeOf3 rfl H) fun x40 H => lsy 41 HA_4 (yld isAgg3 H) (fun x41 H => ?_)
   refine lsp 42 (poff underlying83 rfl sizeOf3 rfl H) fun x42 H => lsy 43 HA_4 (yld isAgg3 H) fun x43 H => lsp 44 (padd H) fun x44 H => lsp 45 (pmin H) fun x45 H => lsd 46 HA_4 (dcall H) fun x46 h_6 w_6 H HA_6 => lsdn HA_6 (dstn sizeOf83 H) fun _ h_7 w_7 H HA_7 => ls_nil (then_normal ?_)
   refine freq (mk [x0,x1,x2,x3,x4,x5,x6,x7,x7,(D 0),(D 1),(D 2),x12,ud,x14,x15,x16,x17,x18,x19,x20,x21,x22,x23,x24,x25,x26,x27,x28,x29,x30,x31,x32,x33,x34,x35,x36,x37,x38,x39,x40,x41,x42,x43,x44,x45,x46]) <| wp_ret ?_
   obtain ⟨r4_1,hr4_1,H⟩ := ld_n isAgg83 sizeOf83 H
   exact endR (vs := [r4_1]) (results91) (by kernel_rfl) ⟨⟨_,(by kernel_rfl),hr4_1⟩, trivial⟩ HA_7 H _ (.inr rfl)

end Go.Proofs.YtmhhjpfkipficaaDoor


end

section
/- The shallow reading of one function, and that the function does it. Written by a program. -/
set_option linter.unusedVariables false
namespace Go.Proofs.YtmhhjpfkipficaaDoor
open Go Go.HW _root_.Go.Proofs.Tryd

def rect_Area_S (x0 : Value) (h : Heap) (R : Value → Heap → Prop) : Prop :=
  sBox h x0 83 fun x1 h => 
  sLdN h x1 4 fun x3 =>
  rect_Right_c x3 h fun x4 h_1 => 
  sNot x4 fun x5 =>
  sOrH x5 h_1 (fun k =>
  sLdN h_1 x1 4 fun x7 =>
  rect_Empty_c x7 h_1 fun x8 h_3 => 
  k x8 h_3) fun x9 h_2 =>
  sIf x9 (R (.int .i64 0) h_2) (sOff x1 2 fun x10 =>
  sLd h_2 x10 fun x11 =>
  sOff x1 3 fun x12 =>
  sLd h_2 x12 fun x13 =>
  sMul .i64 x11 x13 fun x14 =>
  R x14 h_2)
set_option maxRecDepth 100000 in
theorem rect_Area_runs {x0 : Value} {h : Heap} {R : Value → Heap → Prop} (H : rect_Area_S x0 h R) : rect_Area_c x0 h R := by
 unfold rect_Area_S at H
 refine runsof (b := (mk (Ap [x0] 14))) call92 func92 rfl fun w0 HA => wp_seq (lwp_list ?_)
 refine lsd 1 HA (dbox H) fun x1 h w H HA => lsassign (.int .i64 0) <| ls_nil (then_normal ?_)
 refine freq (mk (Ap [x0,x1,(.int .i64 0)] 12)) <| wp_seq <| wp_seq (lwp_list ?_)
 refine lsy 3 HA (yldn isAgg83 sizeOf83 H) fun x3 H => lsd 4 HA (dcall H) fun x4 h_1 w_1 H HA_1 => lsp 5 (pnot H) fun x5 H => lsmove x5 <| ls_orh [(),(),()] (fun K a w => ∃ (D : Nat → Value) (x9 : Value) (h_2 : Heap),a = (mk (Ap [x0,x1,(.int .i64 0),x3,x4,x5,x5,(D 0),(D 1),x9] 5)) ∧ At w0 w h_2 ∧ K x9 h_2) H (fun hb H => ?_) (fun hb H => ?_) ?_
 ·refine lsy (hg := by rw [hb]; kernel_rfl) 7 HA_1 (yldn isAgg83 sizeOf83 H) fun x7 H => lsd (hg := by rw [hb]; kernel_rfl) 8 HA_1 (dcall H) fun x8 h_3 w_3 H HA_3 => lspickf x8 (by rw [hb]; kernel_rfl) <| ls_nil (then_normal ?_)
  exact ⟨(gd ([x7,x8])),x8,h_3,by kernel_rfl,HA_3,H⟩
 ·refine lsskip (hg := by rw [hb]; kernel_rfl) 7 <| lsskip (hg := by rw [hb]; kernel_rfl) 8 <| lspickt (.bool true) (by rw [hb]; kernel_rfl) <| ls_nil (then_normal ?_)
  exact ⟨(gd ([ud,ud])),(.bool true),h_1,by kernel_rfl,HA_1,H⟩
 ·rintro _ w_2 ⟨D,x9,h_2,rfl,HA_2,H⟩
  refine ls_nil (then_normal ?_)
  refine freq (mk (Ap [x0,x1,(.int .i64 0),x3,x4,x5,x5,(D 0),(D 1),x9] 5)) <| wp_if rfl H (fun H => ?_) (fun H => ?_)
  ·refine wp_seq (lwp_list ?_)
   refine lsassign (.int .i64 0) <| ls_nil (then_normal ?_)
   refine freq (mk (Ap [x0,x1,(.int .i64 0),x3,x4,x5,x5,(D 0),(D 1),x9] 5)) <| wp_ret <| then_ret <| end1 (results92) (by kernel_rfl) (by kernel_rfl) HA_2 H _ (.inr rfl)
  ·refine wp_skip <| then_normal <| freq (mk (Ap [x0,x1,(.int .i64 0),x3,x4,x5,x5,(D 0),(D 1),x9] 5)) <| wp_seq (lwp_list ?_)
   refine lsp 10 (poff underlying83 rfl sizeOf3 rfl H) fun x10 H => lsy 11 HA_2 (yld isAgg3 H) fun x11 H => lsp 12 (poff underlying83 rfl sizeOf3 rfl H) fun x12 H => lsy 13 HA_2 (yld isAgg3 H) fun x13 H => lsp 14 (pmul H) fun x14 H => lsassign x14 <| ls_nil (then_normal ?_)
   refine freq (mk [x0,x1,x14,x3,x4,x5,x5,(D 0),(D 1),x9,x10,x11,x12,x13,x14]) <| wp_ret <| end1 (results92) (by kernel_rfl) (by kernel_rfl) HA_2 H _ (.inr rfl)

end Go.Proofs.YtmhhjpfkipficaaDoor


end

section
/- The shallow reading of one function, and that the function does it. Written by a program. -/
set_option linter.unusedVariables false
namespace Go.Proofs.YtmhhjpfkipficaaDoor
open Go Go.HW _root_.Go.Proofs.Tryd

def grid_near_S (x0 : Value) (h : Heap) (R : Value → Heap → Prop) : Prop :=
  sGe x0 (.int .i64 (-1073741824)) fun x4 =>
  sAnd x4 (fun k =>
  sLe x0 (.int .i64 1073741824) fun x7 =>
  k x7) fun x8 =>
  R x8 h
set_option maxRecDepth 100000 in
theorem grid_near_runs {x0 : Value} {h : Heap} {R : Value → Heap → Prop} (H : grid_near_S x0 h R) : grid_near_c x0 h R := by
 unfold grid_near_S at H
 refine runsof (b := (mk (Ap [x0] 8))) call103 func103 rfl fun w0 HA => wp_seq (lwp_list ?_)
 refine lsassign (.bool false) <| ls_nil (then_normal ?_)
 refine freq (mk (Ap [x0,ud,(.bool false)] 6)) <| wp_seq (lwp_list ?_)
 refine lsmove x0 <| lsp 4 (psGe H) fun x4 H => lsmove x4 <| ls_and [(),(),()] (fun K a w => ∃ (D : Nat → Value) (x8 : Value),a = (mk [x0,ud,(.bool false),x0,x4,x4,(D 0),(D 1),x8]) ∧ At w0 w h ∧ K x8) H (fun hb H => ?_) (fun hb H => ?_) ?_
 ·refine lsmove (hg := by rw [hb]; kernel_rfl) x0 <| lsp (hg := by rw [hb]; kernel_rfl) 7 (psLe H) fun x7 H => lspickt x7 (by rw [hb]; kernel_rfl) <| ls_nil (then_normal ?_)
  exact ⟨(gd ([x0,x7])),x7,by kernel_rfl,HA,H⟩
 ·refine lsskip (hg := by rw [hb]; kernel_rfl) 6 <| lsskip (hg := by rw [hb]; kernel_rfl) 7 <| lspickf (.bool false) (by rw [hb]; kernel_rfl) <| ls_nil (then_normal ?_)
  exact ⟨(gd ([ud,ud])),(.bool false),by kernel_rfl,HA,H⟩
 ·rintro _ w ⟨D,x8,rfl,HA,H⟩
  refine lsassign x8 <| ls_nil (then_normal ?_)
  refine freq (mk [x0,ud,x8,x0,x4,x4,(D 0),(D 1),x8]) <| wp_ret <| end1 (results103) (by kernel_rfl) (by kernel_rfl) HA H _ (.inr rfl)

end Go.Proofs.YtmhhjpfkipficaaDoor


end

section
/- Rectangles, for grids. -/
set_option linter.unusedSimpArgs false
namespace Go.Proofs.YtmhhjpfkipficaaDoor
open Go Go.HW

structure Rc where
  x : Int
  y : Int
  w : Int
  h : Int

def Rc.c (r : Rc) : Array Value := #[.int .i64 r.x, .int .i64 r.y, .int .i64 r.w, .int .i64 r.h]
def Rc.v (r : Rc) : Value := .agg r.c
theorem Rc.cells (r : Rc) : r.v.cells = r.c := rfl
theorem Rc.cell1 (r : Rc) : ∀ u ∈ r.c.toList, Cell1 u := by intro u hu; simp [Rc.c] at hu; rcases hu with rfl | rfl | rfl | rfl <;> trivial

theorem Rc.ldn {h : Heap} {b t : Nat} {r : Rc} {K : Value → Prop} (hb : h.has b r.c t) : sLdN h (ptr b 0) 4 K = K r.v := ev_ldn_all (n := 4) hb rfl

def nearB (n : Int) : Bool := decide (-1073741824 ≤ n) && decide (n ≤ 1073741824)
def Rc.right (r : Rc) : Bool := ((((nearB r.x && nearB r.y) && nearB r.w) && nearB r.h) && decide (0 ≤ r.w)) && decide (0 ≤ r.h)
def Rc.Ok (r : Rc) : Prop := (-1073741824 ≤ r.x ∧ r.x ≤ 1073741824) ∧ (-1073741824 ≤ r.y ∧ r.y ≤ 1073741824) ∧ (0 ≤ r.w ∧ r.w ≤ 1073741824) ∧ (0 ≤ r.h ∧ r.h ≤ 1073741824)
theorem Rc.right_iff (r : Rc) : r.right = true ↔ r.Ok := by
  unfold Rc.right nearB Rc.Ok
  simp only [Bool.and_eq_true, decide_eq_true_eq]
  omega
def Rc.empty (r : Rc) : Bool := decide (r.w < 1) || decide (r.h < 1)
def mx (a b : Int) : Int := if a < b then b else a
def mn (a b : Int) : Int := if b < a then b else a
def rof (l t r b : Int) : Rc := if r ≤ l ∨ b ≤ t then ⟨0, 0, 0, 0⟩ else ⟨l, t, r - l, b - t⟩
def Rc.both (a b : Rc) : Rc := if a.right && b.right then rof (mx a.x b.x) (mx a.y b.y) (mn (a.x + a.w) (b.x + b.w)) (mn (a.y + a.h) (b.y + b.h)) else ⟨0, 0, 0, 0⟩

section
variable {h : Heap} {R : Value → Heap → Prop}
theorem rnear_spec {n : Int} (H : R (.bool (nearB n)) h) : rect_near_c (.int .i64 n) h R := by
  apply rect_near_runs
  unfold rect_near_S
  simp only [ev_ge, ev_le, ev_and_p]
  exact H
theorem rright_spec {r : Rc} (H : ∀ h', Ext h h' → R (.bool r.right) h') : rect_Right_c r.v h R := by
  apply rect_Right_runs
  unfold rect_Right_S
  refine box_intro r.cells (fun b h1 hb e1 b1 => ?_)
  rw [ev_off, ev_ld_has b1 rfl]
  refine rnear_spec ?_
  refine and_ext (fun _ K' HK => by rw [ev_off, ev_ld_has b1 rfl]; exact rnear_spec (HK _ (Ext.refl _))) (fun h2 e2 => ?_)
  refine and_ext (fun _ K' HK => by rw [ev_off, ev_ld_has (e2.has b1) rfl]; exact rnear_spec (HK _ (Ext.refl _))) (fun h3 e3 => ?_)
  have e3 := e2.trans e3
  refine and_ext (fun _ K' HK => by rw [ev_off, ev_ld_has (e3.has b1) rfl]; exact rnear_spec (HK _ (Ext.refl _))) (fun h4 e4 => ?_)
  have e4 := e3.trans e4
  simp only [ev_off, ev_ld, (e4.has b1).at, Rc.c, Nat.zero_add, List.getElem?_toArray, List.getElem?_cons_succ, List.getElem?_cons_zero, ev_ge, ev_and_p]
  exact H _ (e1.trans e4)
theorem rempty_spec {r : Rc} (H : ∀ h', Ext h h' → R (.bool r.empty) h') : rect_Empty_c r.v h R := by
  apply rect_Empty_runs
  unfold rect_Empty_S
  refine box_intro r.cells (fun b h1 hb e1 b1 => ?_)
  simp only [ev_off, ev_ld, b1.at, Rc.c, Nat.zero_add, List.getElem?_toArray, List.getElem?_cons_succ, List.getElem?_cons_zero, ev_lt, ev_or_p]
  exact H _ e1
theorem rof_spec {l t r b : Int} (w1 : IntKind.i64.wrap (r - l) = r - l) (w2 : IntKind.i64.wrap (b - t) = b - t) (H : ∀ h', Ext h h' → R (rof l t r b).v h') : rect_of_c (.int .i64 l) (.int .i64 t) (.int .i64 r) (.int .i64 b) h R := by
  apply rect_of_runs
  unfold rect_of_S
  refine new_intro (fun k h1 hk e1 b1 => ?_)
  simp only [ev_le, ev_or_p, ev_if, Bool.or_eq_true, decide_eq_true_eq]
  have fin : ∀ q : Rc, q = rof l t r b → sStN h1 (ptr k 0) q.v 4 fun h_1 => sLdN h_1 (ptr k 0) 4 fun r8 => R r8 h_1 := by
    rintro q rfl
    refine stn_intro b1 rfl rfl (Rc.cell1 _) (fun h2 b2 s2 o2 => ?_)
    rw [Rc.ldn b2]
    exact H _ (e1.off hk s2 o2)
  by_cases hc : r ≤ l ∨ b ≤ t
  · rw [if_pos hc]
    exact fin ⟨0, 0, 0, 0⟩ (by unfold rof; rw [if_pos hc])
  · rw [if_neg hc]
    simp only [ev_sub, w1, w2]
    refine ⟨rfl, Nat.le_of_ble_eq_true rfl, rfl, Nat.le_of_ble_eq_true rfl, rfl, Nat.le_of_ble_eq_true rfl, rfl, Nat.le_of_ble_eq_true rfl, ?_⟩
    exact fin ⟨l, t, r - l, b - t⟩ (by unfold rof; rw [if_neg hc])
theorem rboth_spec {a b : Rc} (H : ∀ h', Ext h h' → R (a.both b).v h') : rect_Both_c a.v b.v h R := by
  apply rect_Both_runs
  unfold rect_Both_S
  refine box_intro a.cells (fun ka h1 ha e1 b1 => ?_)
  refine box_intro b.cells (fun kb h2 hb e2 b2 => ?_)
  refine new_intro (fun kc h3 hc e3 b3 => ?_)
  have l1 := (e2.has b1).lt
  have l2 := b2.lt
  have b1 := e3.has (e2.has b1)
  have b2 := e3.has b2
  have e3 := (e1.trans e2).trans e3
  have fin : ∀ {h5 : Heap} (q : Rc), Ext h3 h5 → q = a.both b → sStN h5 (ptr kc 0) q.v 4 fun h_1 => sLdN h_1 (ptr kc 0) 4 fun r8 => R r8 h_1 := by
    rintro h5 q e5 rfl
    refine stn_intro (e5.has b3) rfl rfl (Rc.cell1 _) (fun h6 b6 s6 o6 => ?_)
    rw [Rc.ldn b6]
    have := e1.size
    have := e2.size
    exact H _ ((e3.trans e5).off (by omega) s6 o6)
  rw [Rc.ldn b1]
  refine rright_spec (fun h4 e4 => ?_)
  rw [ev_not]
  refine or_ext (y := !b.right) (fun _ K' HK => by
    rw [Rc.ldn (e4.has b2)]
    refine rright_spec (fun h5 e5 => ?_)
    rw [ev_not]; exact HK _ e5) (fun h5 e5 => ?_)
  have e5 := e4.trans e5
  rw [ev_if]
  by_cases hr : (a.right && b.right) = true
  · have hr' : (!a.right || !b.right) = false := by simpa using hr
    rw [hr', if_neg (by decide)]
    have hr2 := hr
    rw [Bool.and_eq_true, Rc.right_iff, Rc.right_iff] at hr2
    obtain ⟨⟨x1, x2, x3, x4⟩, y1, y2, y3, y4⟩ := hr2
    have w1 : IntKind.i64.wrap (a.x + a.w) = a.x + a.w := wrap_i64 (by omega) (by omega)
    have w2 : IntKind.i64.wrap (b.x + b.w) = b.x + b.w := wrap_i64 (by omega) (by omega)
    have w3 : IntKind.i64.wrap (a.y + a.h) = a.y + a.h := wrap_i64 (by omega) (by omega)
    have w4 : IntKind.i64.wrap (b.y + b.h) = b.y + b.h := wrap_i64 (by omega) (by omega)
    simp only [ev_off, ev_ld, (e5.has b1).at, (e5.has b2).at, Rc.c, Nat.zero_add, List.getElem?_toArray, List.getElem?_cons_succ, List.getElem?_cons_zero, ev_max, ev_min, ev_add, w1, w2, w3, w4]
    refine rof_spec (l := mx a.x b.x) (t := mx a.y b.y) (r := mn (a.x + a.w) (b.x + b.w)) (b := mn (a.y + a.h) (b.y + b.h)) ?_ ?_ (fun h6 e6 => ?_)
    · unfold mx mn; apply wrap_i64 <;> split <;> split <;> omega
    · unfold mx mn; apply wrap_i64 <;> split <;> split <;> omega
    · exact fin _ (e5.trans e6) (by unfold Rc.both; rw [if_pos hr])
  · have hr' : (!a.right || !b.right) = true := by
      cases h1 : a.right <;> cases h2 : b.right <;> simp [h1, h2] at hr ⊢
    rw [hr', if_pos rfl]
    refine fin ⟨0, 0, 0, 0⟩ e5 (by unfold Rc.both; rw [if_neg hr])
def Rc.area (r : Rc) : Int := if (!r.right || r.empty) = true then 0 else r.w * r.h
theorem rarea_spec {r : Rc} (H : ∀ h', Ext h h' → R (.int .i64 r.area) h') : rect_Area_c r.v h R := by
  apply rect_Area_runs
  unfold rect_Area_S
  refine (HW.Sep.start h).box (c := r.c) r.cells (fun b h1 s1 => ?_)
  rw [s1.ldall (n := 4) rfl]
  refine rright_spec (fun h2 e2 => ?_)
  have s2 := s1.ext' e2
  rw [ev_not]
  refine or_ext (y := r.empty) (fun _ K' HK => by
    rw [s2.ldall (n := 4) rfl]
    exact rempty_spec (fun h3 e3 => HK _ e3)) (fun h3 e3 => ?_)
  have s3 := s2.ext' e3
  rw [ev_if]
  unfold Rc.area at H
  by_cases hc : (!r.right || r.empty) = true
  · rw [if_pos hc] at H ⊢
    exact H _ s3.ext
  · rw [if_neg hc] at H ⊢
    have f2 : ∀ {K : Value → Prop}, sLd h3 (ptr b 2) K = K (.int .i64 r.w) := s3.ld rfl
    have f3 : ∀ {K : Value → Prop}, sLd h3 (ptr b 3) K = K (.int .i64 r.h) := s3.ld rfl
    have hr : r.right = true := by cases h : r.right <;> simp [h] at hc ⊢
    obtain ⟨x1, x2, x3, x4⟩ := (Rc.right_iff r).1 hr
    have m0 : 0 ≤ r.w * r.h := Int.mul_nonneg x3.1 x4.1
    have m1 : r.w * r.h ≤ 1073741824 * 1073741824 := Int.mul_le_mul x3.2 x4.2 x4.1 (by decide)
    simp only [ev_off, Nat.zero_add, f2, f3, ev_mul]
    rw [wrap_i64 (by omega) (by omega)]
    exact H _ s3.ext
theorem gnear_spec {n : Int} (H : R (.bool (nearB n)) h) : grid_near_c (.int .i64 n) h R := by
  apply grid_near_runs
  unfold grid_near_S
  simp only [ev_ge, ev_le, ev_and_p]
  exact H
end
end Go.Proofs.YtmhhjpfkipficaaDoor


end

section
/- The shallow reading of one function, and that the function does it. Written by a program. -/
set_option linter.unusedVariables false
namespace Go.Proofs.YtmhhjpfkipficaaDoor
open Go Go.HW _root_.Go.Proofs.Tryd

def grid_Grid_Blit_l4 (R : Value → Heap → Prop) (x1 x12 x13 x100 : Value) (next : Value → Heap → Prop) (x101 : Value) (h_15 : Heap) : Prop :=
  sLt x101 x100 fun x102 =>
  sIf x102 (sIxS x13 x101 1 fun x104 =>
  sLd h_15 x104 fun x105 =>
  ∃ C_2 : Heap → Prop, C_2 h_15 ∧ (sOff x12 1 fun x107 =>
  sLd h_15 x107 fun x108 =>
  sAdd .i64 x108 x101 fun x110 =>
  grid_Grid_row_c x1 x110 h_15 fun x111 h_16 => C_2 h_16 ∧ (
  sOff x12 0 fun x112 =>
  sLdC C_2 x112 fun x113 =>
  sSl x111 (some x113) none 4 fun x114 =>
  sCopy h_16 x114 x105 4 fun x116 h_17 => 
  sAdd .i64 x101 (.int .i64 1) fun x117 =>
  next x117 h_17))) (sLdN h_15 x12 4 fun x118 =>
  rect_Area_c x118 h_15 fun x119 h_18 => 
  R x119 h_18)
def grid_Grid_Blit_l3 (R : Value → Heap → Prop) (x0 x1 x3 x4 x7 x12 x66 : Value) (next : Value → Value → Heap → Prop) (x13 x67 : Value) (h_10 : Heap) : Prop :=
  sLt x67 x66 fun x68 =>
  sIf x68 (sOff x12 0 fun x70 =>
  sLd h_10 x70 fun x71 =>
  sSub .i64 x71 x3 fun x73 =>
  sOff x7 0 fun x74 =>
  sLd h_10 x74 fun x75 =>
  sAdd .i64 x73 x75 fun x76 =>
  ∃ C_1 : Heap → Prop, C_1 h_10 ∧ (sOff x12 1 fun x79 =>
  sLd h_10 x79 fun x80 =>
  sSub .i64 x80 x4 fun x82 =>
  sOff x7 1 fun x83 =>
  sLd h_10 x83 fun x84 =>
  sAdd .i64 x82 x84 fun x85 =>
  sAdd .i64 x85 x67 fun x87 =>
  grid_Grid_row_c x0 x87 h_10 fun x88 h_11 => C_1 h_11 ∧ (
  sOff x12 2 fun x91 =>
  sLdC C_1 x91 fun x92 =>
  sAdd .i64 x76 x92 fun x93 =>
  sSl x88 (some x76) (some x93) 4 fun x94 =>
  slices_Clone_api_Cell_api_Cell_c x94 h_11 fun x95 h_12 => 
  sSlit h_12 #[.slice none 0 0] [(0, 1, x95)] 32 1 fun x96 h_13 => 
  sApp h_13 x13 x96 #[.slice none 0 0] 32 24 fun x97 h_14 => 
  sAdd .i64 x67 (.int .i64 1) fun x98 =>
  next x97 x98 h_14))) (sLen x13 fun x100 =>
  sLoop (S := Value) (fun nxt s h => grid_Grid_Blit_l4 R x1 x12 x13 x100 (fun x101' h => nxt x101' h) s h) (.int .i64 0) h_10)
def grid_Grid_Blit_j2 (R : Value → Heap → Prop) (x0 x1 x3 x4 x7 x11 x12 : Value) (h_7 : Heap) : Prop :=
  sLdN h_7 x11 4 fun x59 =>
  rect_Empty_c x59 h_7 fun x60 h_8 => 
  sOrH x60 h_8 (fun k =>
  sLdN h_8 x12 4 fun x62 =>
  rect_Empty_c x62 h_8 fun x63 h_19 => 
  k x63 h_19) fun x64 h_9 =>
  sIf x64 (R (.int .i64 0) h_9) (sOff x12 3 fun x65 =>
  sLd h_9 x65 fun x66 =>
  sLoop (S := Value × Value) (fun nxt s h => grid_Grid_Blit_l3 R x0 x1 x3 x4 x7 x12 x66 (fun x13' x67' h => nxt (x13', x67') h) s.1 s.2 h) ((.slice none 0 0), (.int .i64 0)) h_9)
def grid_Grid_Blit_j1 (R : Value → Heap → Prop) (x0 x1 x3 x4 x7 x11 : Value) (h_4 : Heap) : Prop :=
  ∃ C : Heap → Prop, C h_4 ∧ (sOff x11 0 fun x39 =>
  sLd h_4 x39 fun x40 =>
  sAdd .i64 x40 x3 fun x42 =>
  sOff x7 0 fun x43 =>
  sLd h_4 x43 fun x44 =>
  sSub .i64 x42 x44 fun x45 =>
  sOff x11 1 fun x46 =>
  sLd h_4 x46 fun x47 =>
  sAdd .i64 x47 x4 fun x49 =>
  sOff x7 1 fun x50 =>
  sLdC C x50 fun x51 =>
  sSub .i64 x49 x51 fun x52 =>
  sOff x11 0 fun x53 =>
  sSt h_4 x53 x45 fun h_5 => C h_5 ∧ (
  sOff x11 1 fun x54 =>
  sSt h_5 x54 x52 fun h_6 => 
  ∃ C_3 : Heap → Prop, C_3 h_6 ∧ (sLdNC C_3 x11 4 fun x55 =>
  (grid_Grid_all_c x1 h_6 fun x57 h_20 => C_3 h_20 ∧ (
  (rect_Both_c x55 x57 h_20 fun x58 h_21 => 
  sNew h_21 #[.int .i64 0, .int .i64 0, .int .i64 0, .int .i64 0] 83 fun x12_1 h_22 => C_3 h_22 ∧ (
  sStN h_22 x12_1 x58 4 fun h_23 => 
  grid_Grid_Blit_j2 R x0 x1 x3 x4 x7 x11 x12_1 h_23)) ∧
  (sNew h_20 #[.int .i64 0, .int .i64 0, .int .i64 0, .int .i64 0] 83 fun x12_2 h_24 => C_3 h_24 ∧ (
  rect_Both_c x55 x57 h_24 fun x58_1 h_25 => 
  sStN h_25 x12_2 x58_1 4 fun h_26 => 
  grid_Grid_Blit_j2 R x0 x1 x3 x4 x7 x11 x12_2 h_26)))) ∧
  (sNew h_6 #[.int .i64 0, .int .i64 0, .int .i64 0, .int .i64 0] 83 fun x12_3 h_27 => C_3 h_27 ∧ (
  grid_Grid_all_c x1 h_27 fun x57_1 h_28 => C_3 h_28 ∧ (
  rect_Both_c x55 x57_1 h_28 fun x58_2 h_29 => 
  sStN h_29 x12_3 x58_2 4 fun h_30 => 
  grid_Grid_Blit_j2 R x0 x1 x3 x4 x7 x11 x12_3 h_30))))))
def grid_Grid_Blit_S (x0 x1 x2 x3 x4 : Value) (h : Heap) (R : Value → Heap → Prop) : Prop :=
  sBox h x2 83 fun x7 h => 
  sEqlNil x1 fun x19 =>
  sOrH x19 h (fun k_3 =>
  sLdN h x7 4 fun x21 =>
  rect_Right_c x21 h fun x22 h_44 => 
  sNot x22 fun x23 =>
  k_3 x23 h_44) fun x24 h_1 =>
  sOrH x24 h_1 (fun k_2 =>
  grid_near_c x3 h_1 fun x27 h_43 => 
  sNot x27 fun x28 =>
  k_2 x28 h_43) fun x29 h_2 =>
  sOrH x29 h_2 (fun k_1 =>
  grid_near_c x4 h_2 fun x32 h_42 => 
  sNot x32 fun x33 =>
  k_1 x33 h_42) fun x34 h_3 =>
  sIf x34 (R (.int .i64 0) h_3) (∃ C_4 : Heap → Prop, C_4 h_3 ∧ (sLdNC C_4 x7 4 fun x35 =>
  (grid_Grid_all_c x0 h_3 fun x37 h_31 => C_4 h_31 ∧ (
  (rect_Both_c x35 x37 h_31 fun x38 h_32 => 
  sNew h_32 #[.int .i64 0, .int .i64 0, .int .i64 0, .int .i64 0] 83 fun x11_1 h_33 => C_4 h_33 ∧ (
  sStN h_33 x11_1 x38 4 fun h_34 => 
  grid_Grid_Blit_j1 R x0 x1 x3 x4 x7 x11_1 h_34)) ∧
  (sNew h_31 #[.int .i64 0, .int .i64 0, .int .i64 0, .int .i64 0] 83 fun x11_2 h_35 => C_4 h_35 ∧ (
  rect_Both_c x35 x37 h_35 fun x38_1 h_36 => 
  sStN h_36 x11_2 x38_1 4 fun h_37 => 
  grid_Grid_Blit_j1 R x0 x1 x3 x4 x7 x11_2 h_37)))) ∧
  (sNew h_3 #[.int .i64 0, .int .i64 0, .int .i64 0, .int .i64 0] 83 fun x11_3 h_38 => C_4 h_38 ∧ (
  grid_Grid_all_c x0 h_38 fun x37_1 h_39 => C_4 h_39 ∧ (
  rect_Both_c x35 x37_1 h_39 fun x38_2 h_40 => 
  sStN h_40 x11_3 x38_2 4 fun h_41 => 
  grid_Grid_Blit_j1 R x0 x1 x3 x4 x7 x11_3 h_41)))))
set_option maxHeartbeats 4000000 in
set_option maxRecDepth 100000 in
theorem grid_Grid_Blit_runs {x0 x1 x2 x3 x4 : Value} {h : Heap} {R : Value → Heap → Prop} (H : grid_Grid_Blit_S x0 x1 x2 x3 x4 h R) : grid_Grid_Blit_c x0 x1 x2 x3 x4 h R := by
 unfold grid_Grid_Blit_S at H
 refine runsof (b := (mk (Ap [x0,x1,x2,x3,x4] 115))) call97 func97 rfl fun w0 HA => wp_seq (lwp_list ?_)
 refine lsd 7 HA (dbox H) fun x7 h w H HA => lsassign (.int .i64 0) <| ls_nil (then_normal ?_)
 refine freq (mk (Ap [x0,x1,x2,x3,x4,ud,ud,x7,ud,ud,(.int .i64 0)] 109)) <| wp_seq <| wp_seq (lwp_list ?_)
 refine lsmove x1 <| lsp 19 (p_eqlNil underlying54 (by kernel_rfl) (by kernel_rfl) H) fun x19 H => lsmove x19 <| ls_orh [(),(),(),()] (fun K a w => ∃ (D : Nat → Value) (x24 : Value) (h_1 : Heap),a = (mk (Aq [x0,x1,x2,x3,x4,ud,ud,x7,ud,ud,(.int .i64 0)] 7 (Ap [x1,x19,x19,(D 0),(D 1),(D 2),x24] 95))) ∧ At w0 w h_1 ∧ K x24 h_1) H (fun hb_3 H => ?_) (fun hb_3 H => ?_) ?_
 ·refine lsy (hg := by rw [hb_3]; kernel_rfl) 21 HA (yldn isAgg83 sizeOf83 H) fun x21 H => lsd (hg := by rw [hb_3]; kernel_rfl) 22 HA (dcall H) fun x22 h_44 w_49 H HA_49 => lsp (hg := by rw [hb_3]; kernel_rfl) 23 (pnot H) fun x23 H => lspickf x23 (by rw [hb_3]; kernel_rfl) <| ls_nil (then_normal ?_)
  exact ⟨(gd ([x21,x22,x23])),x23,h_44,by kernel_rfl,HA_49,H⟩
 ·refine lsskip (hg := by rw [hb_3]; kernel_rfl) 21 <| lsskip (hg := by rw [hb_3]; kernel_rfl) 22 <| lsskip (hg := by rw [hb_3]; kernel_rfl) 23 <| lspickt (.bool true) (by rw [hb_3]; kernel_rfl) <| ls_nil (then_normal ?_)
  exact ⟨(gd ([ud,ud,ud])),(.bool true),h,by kernel_rfl,HA,H⟩
 ·rintro _ w_1 ⟨D,x24,h_1,rfl,HA_1,H⟩
  refine lsmove x24 <| ls_orh [(),(),(),()] (fun K a w => ∃ (D_1 : Nat → Value) (x29 : Value) (h_2 : Heap),a = (mk (Aq [x0,x1,x2,x3,x4,ud,ud,x7,ud,ud,(.int .i64 0)] 7 (Ap [x1,x19,x19,(D 0),(D 1),(D 2),x24,x24,(D_1 0),(D_1 1),(D_1 2),x29] 90))) ∧ At w0 w h_2 ∧ K x29 h_2) H (fun hb_2 H => ?_) (fun hb_2 H => ?_) ?_
  ·refine lsmove (hg := by rw [hb_2]; kernel_rfl) x3 <| lsd (hg := by rw [hb_2]; kernel_rfl) 27 HA_1 (dcall H) fun x27 h_43 w_48 H HA_48 => lsp (hg := by rw [hb_2]; kernel_rfl) 28 (pnot H) fun x28 H => lspickf x28 (by rw [hb_2]; kernel_rfl) <| ls_nil (then_normal ?_)
   exact ⟨(gd ([x3,x27,x28])),x28,h_43,by kernel_rfl,HA_48,H⟩
  ·refine lsskip (hg := by rw [hb_2]; kernel_rfl) 26 <| lsskip (hg := by rw [hb_2]; kernel_rfl) 27 <| lsskip (hg := by rw [hb_2]; kernel_rfl) 28 <| lspickt (.bool true) (by rw [hb_2]; kernel_rfl) <| ls_nil (then_normal ?_)
   exact ⟨(gd ([ud,ud,ud])),(.bool true),h_1,by kernel_rfl,HA_1,H⟩
  ·rintro _ w_2 ⟨D_1,x29,h_2,rfl,HA_2,H⟩
   refine lsmove x29 <| ls_orh [(),(),(),()] (fun K a w => ∃ (D_2 : Nat → Value) (x34 : Value) (h_3 : Heap),a = (mk (Aq [x0,x1,x2,x3,x4,ud,ud,x7,ud,ud,(.int .i64 0)] 7 (Ap [x1,x19,x19,(D 0),(D 1),(D 2),x24,x24,(D_1 0),(D_1 1),(D_1 2),x29,x29,(D_2 0),(D_2 1),(D_2 2),x34] 85))) ∧ At w0 w h_3 ∧ K x34 h_3) H (fun hb_1 H => ?_) (fun hb_1 H => ?_) ?_
   ·refine lsmove (hg := by rw [hb_1]; kernel_rfl) x4 <| lsd (hg := by rw [hb_1]; kernel_rfl) 32 HA_2 (dcall H) fun x32 h_42 w_47 H HA_47 => lsp (hg := by rw [hb_1]; kernel_rfl) 33 (pnot H) fun x33 H => lspickf x33 (by rw [hb_1]; kernel_rfl) <| ls_nil (then_normal ?_)
    exact ⟨(gd ([x4,x32,x33])),x33,h_42,by kernel_rfl,HA_47,H⟩
   ·refine lsskip (hg := by rw [hb_1]; kernel_rfl) 31 <| lsskip (hg := by rw [hb_1]; kernel_rfl) 32 <| lsskip (hg := by rw [hb_1]; kernel_rfl) 33 <| lspickt (.bool true) (by rw [hb_1]; kernel_rfl) <| ls_nil (then_normal ?_)
    exact ⟨(gd ([ud,ud,ud])),(.bool true),h_2,by kernel_rfl,HA_2,H⟩
   ·rintro _ w_3 ⟨D_2,x34,h_3,rfl,HA_3,H⟩
    refine ls_nil (then_normal ?_)
    refine freq (mk (Aq [x0,x1,x2,x3,x4,ud,ud,x7,ud,ud,(.int .i64 0)] 7 (Ap [x1,x19,x19,(D 0),(D 1),(D 2),x24,x24,(D_1 0),(D_1 1),(D_1 2),x29,x29,(D_2 0),(D_2 1),(D_2 2),x34] 85))) <| wp_if rfl H (fun H => ?_) (fun H => ?_)
    ·refine wp_seq (lwp_list ?_)
     refine lsassign (.int .i64 0) <| ls_nil (then_normal ?_)
     refine freq (mk (Aq [x0,x1,x2,x3,x4,ud,ud,x7,ud,ud,(.int .i64 0)] 7 (Ap [x1,x19,x19,(D 0),(D 1),(D 2),x24,x24,(D_1 0),(D_1 1),(D_1 2),x29,x29,(D_2 0),(D_2 1),(D_2 2),x34] 85))) <| wp_ret <| then_ret <| end1 (results97) (by kernel_rfl) (by kernel_rfl) HA_3 H _ (.inr rfl)
    ·refine wp_skip <| then_normal <| freq (mk (Aq [x0,x1,x2,x3,x4,ud,ud,x7,ud,ud,(.int .i64 0)] 7 (Ap [x1,x19,x19,(D 0),(D 1),(D 2),x24,x24,(D_1 0),(D_1 1),(D_1 2),x29,x29,(D_2 0),(D_2 1),(D_2 2),x34] 85))) <| wp_seq <| wp_join (fun a w => ∃ (D_3 : Nat → Value) (x11 : Value) (h_4 : Heap),a = (mk (Aq [x0,x1,x2,x3,x4,ud,ud,x7,ud,ud,(.int .i64 0),x11] 6 ([x1,x19,x19,(D 0),(D 1),(D 2),x24,x24,(D_1 0),(D_1 1),(D_1 2),x29,x29,(D_2 0),(D_2 1),(D_2 2),x34] ++ (Ad D_3 0 4 (Ap [] 81))))) ∧ At w0 w h_4 ∧ grid_Grid_Blit_j1 R x0 x1 x3 x4 x7 x11 h_4) ?_ ?_
     ·obtain ⟨C_4,HC,H⟩ := H
      refine lwppl (Nat.testBit 60) (Nat.testBit 20) (Nat.testBit 2) [0,0,2,7,0,31] (Nat.testBit 0) C_4 (.op 0 (.op 1 (.alt (.op 2 (.alt (.op 3 (.op 4 (.op 5 .done))) (.op 4 (.op 3 (.op 5 .done))))) (.op 4 (.op 2 (.op 3 (.op 5 .done))))))) HA_3 HC fun w_35 HA_35 => lpf 35 rfl (c_ldn isAgg83 sizeOf83 (by kernel_rfl) H) fun x35 H => lpal (x := x0) 36 rfl (almove) ?_
      obtain ⟨Ha,Hb⟩ := H
      refine lp_alt ?_ ?_
      ·have H := Ha
       clear Ha Hb
       refine lpdc 37 rfl HA_35 (dcall H) (fun x37 h_31 w_36 H HA_36 => ?_)
       obtain ⟨Ha,Hb⟩ := H
       refine lp_alt ?_ ?_
       ·have H := Ha
        clear Ha Hb
        refine lpd 38 rfl HA_36 (dcall H) fun x38 h_32 w_37 H HA_37 => lpdc 11 rfl HA_37 (d_alloc zeroValue83 H) fun x11_1 h_33 w_38 H HA_38 => lp_d (d := none) (by kernel_rfl) rfl (by kernel_rfl) (by kernel_rfl) (by kernel_rfl) HA_38 (dstn sizeOf83 H) fun _ h_34 w_39 H HA_39 => lp_nil <| ⟨(gd ([x35,x0,x37,x38])),x11_1,h_34,by kernel_rfl,HA_39,H⟩
       ·have H := Hb
        clear Ha Hb
        refine lpdc 11 rfl HA_36 (d_alloc zeroValue83 H) fun x11_2 h_35 w_40 H HA_40 => lpd 38 rfl HA_40 (dcall H) fun x38_1 h_36 w_41 H HA_41 => lp_d (d := none) (by kernel_rfl) rfl (by kernel_rfl) (by kernel_rfl) (by kernel_rfl) HA_41 (dstn sizeOf83 H) fun _ h_37 w_42 H HA_42 => lp_nil <| ⟨(gd ([x35,x0,x37,x38_1])),x11_2,h_37,by kernel_rfl,HA_42,H⟩
      ·have H := Hb
       clear Ha Hb
       refine lpdc 11 rfl HA_35 (d_alloc zeroValue83 H) fun x11_3 h_38 w_43 H HA_43 => lpdc 37 rfl HA_43 (dcall H) fun x37_1 h_39 w_44 H HA_44 => lpd 38 rfl HA_44 (dcall H) fun x38_2 h_40 w_45 H HA_45 => lp_d (d := none) (by kernel_rfl) rfl (by kernel_rfl) (by kernel_rfl) (by kernel_rfl) HA_45 (dstn sizeOf83 H) fun _ h_41 w_46 H HA_46 => lp_nil <| ⟨(gd ([x35,x0,x37_1,x38_2])),x11_3,h_41,by kernel_rfl,HA_46,H⟩
     ·rintro _ w_4 ⟨D_3,x11,h_4,rfl,HA_4,H⟩
      unfold grid_Grid_Blit_j1 at H
      refine then_normal <| freq (mk (Aq [x0,x1,x2,x3,x4,ud,ud,x7,ud,ud,(.int .i64 0),x11] 6 ([x1,x19,x19,(D 0),(D 1),(D 2),x24,x24,(D_1 0),(D_1 1),(D_1 2),x29,x29,(D_2 0),(D_2 1),(D_2 2),x34] ++ (Ad D_3 0 4 (Ap [] 81))))) <| wp_seq ?_
      obtain ⟨C,HC,H⟩ := H
      refine lwpmx (Nat.testBit 163840) (Nat.testBit 32768) (Nat.testBit 93917) [0,1,0,7,0,16,63,0,128,0,896,0,2048,8064,511,16895,65535,131071] (Nat.testBit 290) C [0,1,2,3,4,5,6,7,8,9,10,11,12,13,14,15,16,17] HA_4 HC fun w_5 HA_5 => lmp 39 rfl (poff underlying83 rfl sizeOf3 rfl H) fun x39 H => lmb 40 rfl (yld isAgg3 H) fun x40 H => lmal x3 41 rfl (almove) <| lmp 42 rfl (padd H) fun x42 H => lmp 43 rfl (poff underlying83 rfl sizeOf3 rfl H) fun x43 H => lmb 44 rfl (yld isAgg3 H) fun x44 H => lmp 45 rfl (psub H) fun x45 H => lmp 46 rfl (poff underlying83 rfl sizeOf3 rfl H) fun x46 H => lmb 47 rfl (yld isAgg3 H) fun x47 H => lmal x4 48 rfl (almove) <| lmp 49 rfl (padd H) fun x49 H => lmp 50 rfl (poff underlying83 rfl sizeOf3 rfl H) (fun x50 H => ?_)
      refine lmf 51 rfl (cld isAgg3 H) fun x51 H => lmp 52 rfl (psub H) fun x52 H => lmp 53 rfl (poff underlying83 rfl sizeOf3 rfl H) fun x53 H => lm_dcs (d := none) (by kernel_rfl) rfl (by kernel_rfl) (by kernel_rfl) (by kernel_rfl) HA_5 (dstw sizeOf3 H) fun _ h_5 w_6 H HA_6 => lmp 54 rfl (poff underlying83 rfl sizeOf3 rfl H) fun x54 H => lmdn rfl HA_6 (dstw sizeOf3 H) fun _ h_6 w_7 H HA_7 => lm_nil <| then_normal <| freq (mk (Aq [x0,x1,x2,x3,x4,ud,ud,x7,ud,ud,(.int .i64 0),x11] 6 ([x1,x19,x19,(D 0),(D 1),(D 2),x24,x24,(D_1 0),(D_1 1),(D_1 2),x29,x29,(D_2 0),(D_2 1),(D_2 2),x34] ++ (Ad D_3 0 4 (Ap [x39,x40,x3,x42,x43,x44,x45,x46,x47,x4,x49,x50,x51,x52,x53,x54] 65))))) <| wp_seq <| wp_join (fun a w => ∃ (D_4 : Nat → Value) (x12 : Value) (h_7 : Heap),a = (mk (Aq [x0,x1,x2,x3,x4,ud,ud,x7,ud,ud,(.int .i64 0),x11,x12] 5 ([x1,x19,x19,(D 0),(D 1),(D 2),x24,x24,(D_1 0),(D_1 1),(D_1 2),x29,x29,(D_2 0),(D_2 1),(D_2 2),x34] ++ (Ad D_3 0 4 ([x39,x40,x3,x42,x43,x44,x45,x46,x47,x4,x49,x50,x51,x52,x53,x54] ++ (Ad D_4 0 4 (Ap [] 61))))))) ∧ At w0 w h_7 ∧ grid_Grid_Blit_j2 R x0 x1 x3 x4 x7 x11 x12 h_7) ?_ ?_
      ·obtain ⟨C_3,HC,H⟩ := H
       refine lwppl (Nat.testBit 60) (Nat.testBit 20) (Nat.testBit 2) [0,0,2,7,0,31] (Nat.testBit 0) C_3 (.op 0 (.op 1 (.alt (.op 2 (.alt (.op 3 (.op 4 (.op 5 .done))) (.op 4 (.op 3 (.op 5 .done))))) (.op 4 (.op 2 (.op 3 (.op 5 .done))))))) HA_7 HC fun w_23 HA_23 => lpf 55 rfl (c_ldn isAgg83 sizeOf83 (by kernel_rfl) H) fun x55 H => lpal (x := x1) 56 rfl (almove) ?_
       obtain ⟨Ha,Hb⟩ := H
       refine lp_alt ?_ ?_
       ·have H := Ha
        clear Ha Hb
        refine lpdc 57 rfl HA_23 (dcall H) (fun x57 h_20 w_24 H HA_24 => ?_)
        obtain ⟨Ha,Hb⟩ := H
        refine lp_alt ?_ ?_
        ·have H := Ha
         clear Ha Hb
         refine lpd 58 rfl HA_24 (dcall H) fun x58 h_21 w_25 H HA_25 => lpdc 12 rfl HA_25 (d_alloc zeroValue83 H) fun x12_1 h_22 w_26 H HA_26 => lp_d (d := none) (by kernel_rfl) rfl (by kernel_rfl) (by kernel_rfl) (by kernel_rfl) HA_26 (dstn sizeOf83 H) fun _ h_23 w_27 H HA_27 => lp_nil <| ⟨(gd ([x55,x1,x57,x58])),x12_1,h_23,by kernel_rfl,HA_27,H⟩
        ·have H := Hb
         clear Ha Hb
         refine lpdc 12 rfl HA_24 (d_alloc zeroValue83 H) fun x12_2 h_24 w_28 H HA_28 => lpd 58 rfl HA_28 (dcall H) fun x58_1 h_25 w_29 H HA_29 => lp_d (d := none) (by kernel_rfl) rfl (by kernel_rfl) (by kernel_rfl) (by kernel_rfl) HA_29 (dstn sizeOf83 H) fun _ h_26 w_30 H HA_30 => lp_nil <| ⟨(gd ([x55,x1,x57,x58_1])),x12_2,h_26,by kernel_rfl,HA_30,H⟩
       ·have H := Hb
        clear Ha Hb
        refine lpdc 12 rfl HA_23 (d_alloc zeroValue83 H) fun x12_3 h_27 w_31 H HA_31 => lpdc 57 rfl HA_31 (dcall H) fun x57_1 h_28 w_32 H HA_32 => lpd 58 rfl HA_32 (dcall H) fun x58_2 h_29 w_33 H HA_33 => lp_d (d := none) (by kernel_rfl) rfl (by kernel_rfl) (by kernel_rfl) (by kernel_rfl) HA_33 (dstn sizeOf83 H) fun _ h_30 w_34 H HA_34 => lp_nil <| ⟨(gd ([x55,x1,x57_1,x58_2])),x12_3,h_30,by kernel_rfl,HA_34,H⟩
      ·rintro _ w_8 ⟨D_4,x12,h_7,rfl,HA_8,H⟩
       unfold grid_Grid_Blit_j2 at H
       refine then_normal <| freq (mk (Aq [x0,x1,x2,x3,x4,ud,ud,x7,ud,ud,(.int .i64 0),x11,x12] 5 ([x1,x19,x19,(D 0),(D 1),(D 2),x24,x24,(D_1 0),(D_1 1),(D_1 2),x29,x29,(D_2 0),(D_2 1),(D_2 2),x34] ++ (Ad D_3 0 4 ([x39,x40,x3,x42,x43,x44,x45,x46,x47,x4,x49,x50,x51,x52,x53,x54] ++ (Ad D_4 0 4 (Ap [] 61))))))) <| wp_seq <| wp_seq (lwp_list ?_)
       refine lsy 59 HA_8 (yldn isAgg83 sizeOf83 H) fun x59 H => lsd 60 HA_8 (dcall H) fun x60 h_8 w_9 H HA_9 => lsmove x60 <| ls_orh [(),(),()] (fun K a w => ∃ (D_5 : Nat → Value) (x64 : Value) (h_9 : Heap),a = (mk (Aq [x0,x1,x2,x3,x4,ud,ud,x7,ud,ud,(.int .i64 0),x11,x12] 5 ([x1,x19,x19,(D 0),(D 1),(D 2),x24,x24,(D_1 0),(D_1 1),(D_1 2),x29,x29,(D_2 0),(D_2 1),(D_2 2),x34] ++ (Ad D_3 0 4 ([x39,x40,x3,x42,x43,x44,x45,x46,x47,x4,x49,x50,x51,x52,x53,x54] ++ (Ad D_4 0 4 (Ap [x59,x60,x60,(D_5 0),(D_5 1),x64] 55))))))) ∧ At w0 w h_9 ∧ K x64 h_9) H (fun hb H => ?_) (fun hb H => ?_) ?_
       ·refine lsy (hg := by rw [hb]; kernel_rfl) 62 HA_9 (yldn isAgg83 sizeOf83 H) fun x62 H => lsd (hg := by rw [hb]; kernel_rfl) 63 HA_9 (dcall H) fun x63 h_19 w_22 H HA_22 => lspickf x63 (by rw [hb]; kernel_rfl) <| ls_nil (then_normal ?_)
        exact ⟨(gd ([x62,x63])),x63,h_19,by kernel_rfl,HA_22,H⟩
       ·refine lsskip (hg := by rw [hb]; kernel_rfl) 62 <| lsskip (hg := by rw [hb]; kernel_rfl) 63 <| lspickt (.bool true) (by rw [hb]; kernel_rfl) <| ls_nil (then_normal ?_)
        exact ⟨(gd ([ud,ud])),(.bool true),h_8,by kernel_rfl,HA_9,H⟩
       ·rintro _ w_10 ⟨D_5,x64,h_9,rfl,HA_10,H⟩
        refine ls_nil (then_normal ?_)
        refine freq (mk (Aq [x0,x1,x2,x3,x4,ud,ud,x7,ud,ud,(.int .i64 0),x11,x12] 5 ([x1,x19,x19,(D 0),(D 1),(D 2),x24,x24,(D_1 0),(D_1 1),(D_1 2),x29,x29,(D_2 0),(D_2 1),(D_2 2),x34] ++ (Ad D_3 0 4 ([x39,x40,x3,x42,x43,x44,x45,x46,x47,x4,x49,x50,x51,x52,x53,x54] ++ (Ad D_4 0 4 (Ap [x59,x60,x60,(D_5 0),(D_5 1),x64] 55))))))) <| wp_if rfl H (fun H => ?_) (fun H => ?_)
        ·refine wp_seq (lwp_list ?_)
         refine lsassign (.int .i64 0) <| ls_nil (then_normal ?_)
         refine freq (mk (Aq [x0,x1,x2,x3,x4,ud,ud,x7,ud,ud,(.int .i64 0),x11,x12] 5 ([x1,x19,x19,(D 0),(D 1),(D 2),x24,x24,(D_1 0),(D_1 1),(D_1 2),x29,x29,(D_2 0),(D_2 1),(D_2 2),x34] ++ (Ad D_3 0 4 ([x39,x40,x3,x42,x43,x44,x45,x46,x47,x4,x49,x50,x51,x52,x53,x54] ++ (Ad D_4 0 4 (Ap [x59,x60,x60,(D_5 0),(D_5 1),x64] 55))))))) <| wp_ret <| then_ret <| end1 (results97) (by kernel_rfl) (by kernel_rfl) HA_10 H _ (.inr rfl)
        ·refine wp_skip <| then_normal <| freq (mk (Aq [x0,x1,x2,x3,x4,ud,ud,x7,ud,ud,(.int .i64 0),x11,x12] 5 ([x1,x19,x19,(D 0),(D 1),(D 2),x24,x24,(D_1 0),(D_1 1),(D_1 2),x29,x29,(D_2 0),(D_2 1),(D_2 2),x34] ++ (Ad D_3 0 4 ([x39,x40,x3,x42,x43,x44,x45,x46,x47,x4,x49,x50,x51,x52,x53,x54] ++ (Ad D_4 0 4 (Ap [x59,x60,x60,(D_5 0),(D_5 1),x64] 55))))))) <| wp_seq (lwp_list ?_)
         refine lsassign (.slice none 0 0) <| ls_nil (then_normal ?_)
         refine freq (mk ([x0,x1,x2,x3,x4,ud,ud,x7,ud,ud,(.int .i64 0),x11,x12,(.slice none 0 0),ud,ud,ud,ud,x1,x19,x19,(D 0),(D 1),(D 2),x24,x24,(D_1 0),(D_1 1),(D_1 2),x29,x29,(D_2 0),(D_2 1),(D_2 2),x34] ++ (Ad D_3 0 4 ([x39,x40,x3,x42,x43,x44,x45,x46,x47,x4,x49,x50,x51,x52,x53,x54] ++ (Ad D_4 0 4 (Ap [x59,x60,x60,(D_5 0),(D_5 1),x64] 55)))))) <| wp_seq <| wp_seq (lwp_list ?_)
         refine lsp 65 (poff underlying83 rfl sizeOf3 rfl H) fun x65 H => lsy 66 HA_10 (yld isAgg3 H) fun x66 H => lsmove (.int .i64 0) <| ls_nil (then_normal ?_)
         refine freq (mk ([x0,x1,x2,x3,x4,ud,ud,x7,ud,ud,(.int .i64 0),x11,x12,(.slice none 0 0),ud,ud,ud,ud,x1,x19,x19,(D 0),(D 1),(D 2),x24,x24,(D_1 0),(D_1 1),(D_1 2),x29,x29,(D_2 0),(D_2 1),(D_2 2),x34] ++ (Ad D_3 0 4 ([x39,x40,x3,x42,x43,x44,x45,x46,x47,x4,x49,x50,x51,x52,x53,x54] ++ (Ad D_4 0 4 (Ap [x59,x60,x60,(D_5 0),(D_5 1),x64,x65,x66,(.int .i64 0)] 52)))))) <| wp_block ?_
         obtain ⟨I,m,H0,HB⟩ := H
         refine wp_loop (fun a w => ∃ (D_6 : Nat → Value) (x13 x67 : Value) (h_10 : Heap),a = (mk ([x0,x1,x2,x3,x4,ud,ud,x7,ud,ud,(.int .i64 0),x11,x12,x13,(D_6 0),(D_6 1),ud,ud,x1,x19,x19,(D 0),(D 1),(D 2),x24,x24,(D_1 0),(D_1 1),(D_1 2),x29,x29,(D_2 0),(D_2 1),(D_2 2),x34] ++ (Ad D_3 0 4 ([x39,x40,x3,x42,x43,x44,x45,x46,x47,x4,x49,x50,x51,x52,x53,x54] ++ (Ad D_4 0 4 ([x59,x60,x60,(D_5 0),(D_5 1),x64,x65,x66,x67] ++ (Ad D_6 2 31 (Ap [] 21)))))))) ∧ At w0 w h_10 ∧ I (x13,x67) h_10) (fun a w => m ((a.tmps.getD 13 ud),(a.tmps.getD 67 ud)) w.heap) ?_ ?_
         ·exact ⟨(gd (Ap [] 33)),(.slice none 0 0),(.int .i64 0),h_9,by kernel_rfl,HA_10,H0⟩
         ·rintro _ w_11 ⟨D_6,x13,x67,h_10,rfl,HA_11,HI⟩
          have H : grid_Grid_Blit_l3 R x0 x1 x3 x4 x7 x12 x66 (fun x13' x67' h' => I (x13', x67') h' ∧ m (x13', x67') h' < m (x13,x67) h_10) x13 x67 h_10 := HB (x13,x67) h_10 HI
          clear HB H0 HI
          unfold grid_Grid_Blit_l3 at H
          refine wp_seq (lwp_list ?_)
          refine lsp 68 (psLt H) fun x68 H => ls_nil (then_normal ?_)
          refine freq (mk ([x0,x1,x2,x3,x4,ud,ud,x7,ud,ud,(.int .i64 0),x11,x12,x13,(D_6 0),(D_6 1),ud,ud,x1,x19,x19,(D 0),(D 1),(D 2),x24,x24,(D_1 0),(D_1 1),(D_1 2),x29,x29,(D_2 0),(D_2 1),(D_2 2),x34] ++ (Ad D_3 0 4 ([x39,x40,x3,x42,x43,x44,x45,x46,x47,x4,x49,x50,x51,x52,x53,x54] ++ (Ad D_4 0 4 ([x59,x60,x60,(D_5 0),(D_5 1),x64,x65,x66,x67,x68] ++ (Ad D_6 3 30 (Ap [] 21)))))))) <| wp_seq <| wp_if rfl H (fun H => ?_) (fun H => ?_)
          ·refine wp_skip <| then_normal <| freq (mk ([x0,x1,x2,x3,x4,ud,ud,x7,ud,ud,(.int .i64 0),x11,x12,x13,(D_6 0),(D_6 1),ud,ud,x1,x19,x19,(D 0),(D 1),(D 2),x24,x24,(D_1 0),(D_1 1),(D_1 2),x29,x29,(D_2 0),(D_2 1),(D_2 2),x34] ++ (Ad D_3 0 4 ([x39,x40,x3,x42,x43,x44,x45,x46,x47,x4,x49,x50,x51,x52,x53,x54] ++ (Ad D_4 0 4 ([x59,x60,x60,(D_5 0),(D_5 1),x64,x65,x66,x67,x68] ++ (Ad D_6 3 30 (Ap [] 21)))))))) <| wp_seq <| wp_block <| wp_seq (lwp_list ?_)
           refine lsmove x67 <| lsassign x67 <| ls_nil (then_normal ?_)
           refine freq (mk ([x0,x1,x2,x3,x4,ud,ud,x7,ud,ud,(.int .i64 0),x11,x12,x13,x67,(D_6 1),ud,ud,x1,x19,x19,(D 0),(D 1),(D 2),x24,x24,(D_1 0),(D_1 1),(D_1 2),x29,x29,(D_2 0),(D_2 1),(D_2 2),x34] ++ (Ad D_3 0 4 ([x39,x40,x3,x42,x43,x44,x45,x46,x47,x4,x49,x50,x51,x52,x53,x54] ++ (Ad D_4 0 4 ([x59,x60,x60,(D_5 0),(D_5 1),x64,x65,x66,x67,x68,x67] ++ (Ad D_6 4 29 (Ap [] 21)))))))) <| wp_seq (lwp_list ?_)
           refine lsp 70 (poff underlying83 rfl sizeOf3 rfl H) fun x70 H => lsy 71 HA_11 (yld isAgg3 H) fun x71 H => lsmove x3 <| lsp 73 (psub H) fun x73 H => lsp 74 (poff underlying83 rfl sizeOf3 rfl H) fun x74 H => lsy 75 HA_11 (yld isAgg3 H) fun x75 H => lsp 76 (padd H) fun x76 H => lsassign x76 <| ls_nil (then_normal ?_)
           refine freq (mk ([x0,x1,x2,x3,x4,ud,ud,x7,ud,ud,(.int .i64 0),x11,x12,x13,x67,x76,ud,ud,x1,x19,x19,(D 0),(D 1),(D 2),x24,x24,(D_1 0),(D_1 1),(D_1 2),x29,x29,(D_2 0),(D_2 1),(D_2 2),x34] ++ (Ad D_3 0 4 ([x39,x40,x3,x42,x43,x44,x45,x46,x47,x4,x49,x50,x51,x52,x53,x54] ++ (Ad D_4 0 4 ([x59,x60,x60,(D_5 0),(D_5 1),x64,x65,x66,x67,x68,x67,x70,x71,x3,x73,x74,x75,x76] ++ (Ad D_6 11 22 (Ap [] 21)))))))) ?_
           obtain ⟨C_1,HC,H⟩ := H
           refine lwpmx (Nat.testBit 1837056) (Nat.testBit 2048) (Nat.testBit 2324343) [0,0,0,4,0,28,0,64,252,0,1020,2046,0,0,0,16384,57344,131070,262142,524286,1048575,2097151] (Nat.testBit 136) C_1 [0,1,2,3,4,5,6,7,8,9,10,11,12,13,14,15,16,17,18,19,20,21] HA_11 HC fun w_12 HA_12 => lmal x13 77 rfl (almove) <| lmal x0 78 rfl (almove) <| lmp 79 rfl (poff underlying83 rfl sizeOf3 rfl H) fun x79 H => lmb 80 rfl (yld isAgg3 H) fun x80 H => lmal x4 81 rfl (almove) <| lmp 82 rfl (psub H) fun x82 H => lmp 83 rfl (poff underlying83 rfl sizeOf3 rfl H) fun x83 H => lmb 84 rfl (yld isAgg3 H) fun x84 H => lmp 85 rfl (padd H) fun x85 H => lmal x67 86 rfl (almove) <| lmp 87 rfl (padd H) fun x87 H => lmdc 88 rfl HA_12 (dcall H) (fun x88 h_11 w_13 H HA_13 => ?_)
           refine lmal x76 89 rfl (almove) <| lmal x76 90 rfl (almove) <| lmp 91 rfl (poff underlying83 rfl sizeOf3 rfl H) fun x91 H => lmf 92 rfl (cld isAgg3 H) fun x92 H => lmp 93 rfl (padd H) fun x93 H => lmp 94 rfl (psl underlying32 sizeOf31 H) fun x94 H => lmd 95 rfl HA_13 (dcall H) fun x95 h_12 w_14 H HA_14 => lmd 96 rfl HA_14 (dslit (zc := #[.slice none 0 0]) underlying26 sizeOf32 (by decide) (.inr ⟨by decide,_,zeroValue32,(by kernel_rfl)⟩) H) fun x96 h_13 w_15 H HA_15 => lmd 97 rfl HA_15 (dapp (z := #[.slice none 0 0]) underlying26 underlying26 (.inl ⟨_,rfl⟩) typeInfo32 sizeOf32 zeroValue32 H) fun x97 h_14 w_16 H HA_16 => lmal x97 13 rfl (alassign) <| lm_nil <| block_normal <| then_normal <| freq (mk ([x0,x1,x2,x3,x4,ud,ud,x7,ud,ud,(.int .i64 0),x11,x12,x97,x67,x76,ud,ud,x1,x19,x19,(D 0),(D 1),(D 2),x24,x24,(D_1 0),(D_1 1),(D_1 2),x29,x29,(D_2 0),(D_2 1),(D_2 2),x34] ++ (Ad D_3 0 4 ([x39,x40,x3,x42,x43,x44,x45,x46,x47,x4,x49,x50,x51,x52,x53,x54] ++ (Ad D_4 0 4 (Ap [x59,x60,x60,(D_5 0),(D_5 1),x64,x65,x66,x67,x68,x67,x70,x71,x3,x73,x74,x75,x76,x13,x0,x79,x80,x4,x82,x83,x84,x85,x67,x87,x88,x76,x76,x91,x92,x93,x94,x95,x96,x97,(D_6 32)] 21)))))) ?_
           refine lwp_list <| lsp 98 (padd H) fun x98 H => lsmove x98 <| ls_nil <| ⟨⟨(gd ([x67,x76,x68,x67,x70,x71,x3,x73,x74,x75,x76,x13,x0,x79,x80,x4,x82,x83,x84,x85,x67,x87,x88,x76,x76,x91,x92,x93,x94,x95,x96,x97,x98])),x97,x98,h_14,by kernel_rfl,HA_16,H.1⟩, loop_lt HA_16.heap HA_11.heap (by kernel_rfl) (by kernel_rfl) H.2⟩
          ·refine wp_exit <| then_exit <| then_exit <| block_exit <| then_normal <| freq (mk ([x0,x1,x2,x3,x4,ud,ud,x7,ud,ud,(.int .i64 0),x11,x12,x13,(D_6 0),(D_6 1),ud,ud,x1,x19,x19,(D 0),(D 1),(D 2),x24,x24,(D_1 0),(D_1 1),(D_1 2),x29,x29,(D_2 0),(D_2 1),(D_2 2),x34] ++ (Ad D_3 0 4 ([x39,x40,x3,x42,x43,x44,x45,x46,x47,x4,x49,x50,x51,x52,x53,x54] ++ (Ad D_4 0 4 ([x59,x60,x60,(D_5 0),(D_5 1),x64,x65,x66,x67,x68] ++ (Ad D_6 3 30 (Ap [] 21)))))))) <| wp_seq <| wp_seq (lwp_list ?_)
           refine lsmove x13 <| lsp 100 (plen underlying26 H) fun x100 H => lsmove (.int .i64 0) <| ls_nil (then_normal ?_)
           refine freq (mk ([x0,x1,x2,x3,x4,ud,ud,x7,ud,ud,(.int .i64 0),x11,x12,x13,(D_6 0),(D_6 1),ud,ud,x1,x19,x19,(D 0),(D 1),(D 2),x24,x24,(D_1 0),(D_1 1),(D_1 2),x29,x29,(D_2 0),(D_2 1),(D_2 2),x34] ++ (Ad D_3 0 4 ([x39,x40,x3,x42,x43,x44,x45,x46,x47,x4,x49,x50,x51,x52,x53,x54] ++ (Ad D_4 0 4 ([x59,x60,x60,(D_5 0),(D_5 1),x64,x65,x66,x67,x68] ++ (Ad D_6 3 30 (Ap [x13,x100,(.int .i64 0)] 18)))))))) <| wp_block ?_
           obtain ⟨I_1,m_1,H0,HB⟩ := H
           refine wp_loop (fun a w => ∃ (D_7 : Nat → Value) (x101 : Value) (h_15 : Heap),a = (mk ([x0,x1,x2,x3,x4,ud,ud,x7,ud,ud,(.int .i64 0),x11,x12,x13,(D_6 0),(D_6 1),(D_7 0),(D_7 1),x1,x19,x19,(D 0),(D 1),(D 2),x24,x24,(D_1 0),(D_1 1),(D_1 2),x29,x29,(D_2 0),(D_2 1),(D_2 2),x34] ++ (Ad D_3 0 4 ([x39,x40,x3,x42,x43,x44,x45,x46,x47,x4,x49,x50,x51,x52,x53,x54] ++ (Ad D_4 0 4 ([x59,x60,x60,(D_5 0),(D_5 1),x64,x65,x66,x67,x68] ++ (Ad D_6 3 30 ([x13,x100,x101] ++ (Ad D_7 2 16 [ud,ud]))))))))) ∧ At w0 w h_15 ∧ I_1 x101 h_15) (fun a w => m_1 (a.tmps.getD 101 ud) w.heap) ?_ ?_
           ·exact ⟨(gd (Ap [] 18)),(.int .i64 0),h_10,by kernel_rfl,HA_11,H0⟩
           ·rintro _ w_17 ⟨D_7,x101,h_15,rfl,HA_17,HI⟩
            have H : grid_Grid_Blit_l4 R x1 x12 x13 x100 (fun x101' h' => I_1 x101' h' ∧ m_1 x101' h' < m_1 x101 h_15) x101 h_15 := HB x101 h_15 HI
            clear HB H0 HI
            unfold grid_Grid_Blit_l4 at H
            refine wp_seq (lwp_list ?_)
            refine lsp 102 (psLt H) fun x102 H => ls_nil (then_normal ?_)
            refine freq (mk ([x0,x1,x2,x3,x4,ud,ud,x7,ud,ud,(.int .i64 0),x11,x12,x13,(D_6 0),(D_6 1),(D_7 0),(D_7 1),x1,x19,x19,(D 0),(D 1),(D 2),x24,x24,(D_1 0),(D_1 1),(D_1 2),x29,x29,(D_2 0),(D_2 1),(D_2 2),x34] ++ (Ad D_3 0 4 ([x39,x40,x3,x42,x43,x44,x45,x46,x47,x4,x49,x50,x51,x52,x53,x54] ++ (Ad D_4 0 4 ([x59,x60,x60,(D_5 0),(D_5 1),x64,x65,x66,x67,x68] ++ (Ad D_6 3 30 ([x13,x100,x101,x102] ++ (Ad D_7 3 15 [ud,ud]))))))))) <| wp_seq <| wp_if rfl H (fun H => ?_) (fun H => ?_)
            ·refine wp_skip <| then_normal <| freq (mk ([x0,x1,x2,x3,x4,ud,ud,x7,ud,ud,(.int .i64 0),x11,x12,x13,(D_6 0),(D_6 1),(D_7 0),(D_7 1),x1,x19,x19,(D 0),(D 1),(D 2),x24,x24,(D_1 0),(D_1 1),(D_1 2),x29,x29,(D_2 0),(D_2 1),(D_2 2),x34] ++ (Ad D_3 0 4 ([x39,x40,x3,x42,x43,x44,x45,x46,x47,x4,x49,x50,x51,x52,x53,x54] ++ (Ad D_4 0 4 ([x59,x60,x60,(D_5 0),(D_5 1),x64,x65,x66,x67,x68] ++ (Ad D_6 3 30 ([x13,x100,x101,x102] ++ (Ad D_7 3 15 [ud,ud]))))))))) <| wp_seq <| wp_block <| wp_seq (lwp_list ?_)
             refine lsmove x101 <| lsp 104 (pixs underlying26 sizeOf32 H) fun x104 H => lsy 105 HA_17 (yld isAgg32 H) fun x105 H => lsassign x101 <| lsassign x105 <| ls_nil (then_normal ?_)
             refine freq (mk ([x0,x1,x2,x3,x4,ud,ud,x7,ud,ud,(.int .i64 0),x11,x12,x13,(D_6 0),(D_6 1),x101,x105,x1,x19,x19,(D 0),(D 1),(D 2),x24,x24,(D_1 0),(D_1 1),(D_1 2),x29,x29,(D_2 0),(D_2 1),(D_2 2),x34] ++ (Ad D_3 0 4 ([x39,x40,x3,x42,x43,x44,x45,x46,x47,x4,x49,x50,x51,x52,x53,x54] ++ (Ad D_4 0 4 ([x59,x60,x60,(D_5 0),(D_5 1),x64,x65,x66,x67,x68] ++ (Ad D_6 3 30 ([x13,x100,x101,x102,x101,x104,x105] ++ (Ad D_7 6 12 [ud,ud]))))))))) ?_
             obtain ⟨C_2,HC,H⟩ := H
             refine lwpmx (Nat.testBit 1056) (Nat.testBit 32) (Nat.testBit 859) [0,0,2,0,14,31,0,64,255,0,1023] (Nat.testBit 4) C_2 [0,1,2,3,4,5,6,7,8,9,10] HA_17 HC fun w_18 HA_18 => lmal x1 106 rfl (almove) <| lmp 107 rfl (poff underlying83 rfl sizeOf3 rfl H) fun x107 H => lmb 108 rfl (yld isAgg3 H) fun x108 H => lmal x101 109 rfl (almove) <| lmp 110 rfl (padd H) fun x110 H => lmdc 111 rfl HA_18 (dcall H) fun x111 h_16 w_19 H HA_19 => lmp 112 rfl (poff underlying83 rfl sizeOf3 rfl H) fun x112 H => lmf 113 rfl (cld isAgg3 H) fun x113 H => lmp 114 rfl (psl underlying32 sizeOf31 H) fun x114 H => lmal x105 115 rfl (almove) <| lmd 116 rfl HA_19 (d_copy underlying32 sizeOf31 (by kernel_rfl) (by kernel_rfl) H) fun x116 h_17 w_20 H HA_20 => lm_nil ?_
             refine block_normal <| then_normal <| freq (mk ([x0,x1,x2,x3,x4,ud,ud,x7,ud,ud,(.int .i64 0),x11,x12,x13,(D_6 0),(D_6 1),x101,x105,x1,x19,x19,(D 0),(D 1),(D 2),x24,x24,(D_1 0),(D_1 1),(D_1 2),x29,x29,(D_2 0),(D_2 1),(D_2 2),x34] ++ (Ad D_3 0 4 ([x39,x40,x3,x42,x43,x44,x45,x46,x47,x4,x49,x50,x51,x52,x53,x54] ++ (Ad D_4 0 4 ([x59,x60,x60,(D_5 0),(D_5 1),x64,x65,x66,x67,x68] ++ (Ad D_6 3 30 [x13,x100,x101,x102,x101,x104,x105,x1,x107,x108,x101,x110,x111,x112,x113,x114,x105,x116,(D_7 17),ud,ud]))))))) <| lwp_list <| lsp 117 (padd H) fun x117 H => lsmove x117 <| ls_nil <| ⟨⟨(gd ([x101,x105,x102,x101,x104,x105,x1,x107,x108,x101,x110,x111,x112,x113,x114,x105,x116,x117])),x117,h_17,by kernel_rfl,HA_20,H.1⟩, loop_lt HA_20.heap HA_17.heap (by kernel_rfl) (by kernel_rfl) H.2⟩
            ·refine wp_exit <| then_exit <| then_exit <| block_exit <| then_normal <| freq (mk ([x0,x1,x2,x3,x4,ud,ud,x7,ud,ud,(.int .i64 0),x11,x12,x13,(D_6 0),(D_6 1),(D_7 0),(D_7 1),x1,x19,x19,(D 0),(D 1),(D 2),x24,x24,(D_1 0),(D_1 1),(D_1 2),x29,x29,(D_2 0),(D_2 1),(D_2 2),x34] ++ (Ad D_3 0 4 ([x39,x40,x3,x42,x43,x44,x45,x46,x47,x4,x49,x50,x51,x52,x53,x54] ++ (Ad D_4 0 4 ([x59,x60,x60,(D_5 0),(D_5 1),x64,x65,x66,x67,x68] ++ (Ad D_6 3 30 ([x13,x100,x101,x102] ++ (Ad D_7 3 15 [ud,ud]))))))))) <| wp_seq (lwp_list ?_)
             refine lsy 118 HA_17 (yldn isAgg83 sizeOf83 H) fun x118 H => lsd 119 HA_17 (dcall H) fun x119 h_18 w_21 H HA_21 => lsassign x119 <| ls_nil (then_normal ?_)
             refine freq (mk ([x0,x1,x2,x3,x4,ud,ud,x7,ud,ud,x119,x11,x12,x13,(D_6 0),(D_6 1),(D_7 0),(D_7 1),x1,x19,x19,(D 0),(D 1),(D 2),x24,x24,(D_1 0),(D_1 1),(D_1 2),x29,x29,(D_2 0),(D_2 1),(D_2 2),x34] ++ (Ad D_3 0 4 ([x39,x40,x3,x42,x43,x44,x45,x46,x47,x4,x49,x50,x51,x52,x53,x54] ++ (Ad D_4 0 4 ([x59,x60,x60,(D_5 0),(D_5 1),x64,x65,x66,x67,x68] ++ (Ad D_6 3 30 ([x13,x100,x101,x102] ++ (Ad D_7 3 15 [x118,x119]))))))))) <| wp_ret <| end1 (results97) (by kernel_rfl) (by kernel_rfl) HA_21 H _ (.inr rfl)

end Go.Proofs.YtmhhjpfkipficaaDoor


end

section
/- The shallow reading of one function, and that the function does it. Written by a program. -/
set_option linter.unusedVariables false
namespace Go.Proofs.YtmhhjpfkipficaaDoor
open Go Go.HW _root_.Go.Proofs.Tryd

def grid_Grid_Copy_S (x0 x1 x2 x3 : Value) (h : Heap) (R : Value → Heap → Prop) : Prop :=
  sBox h x1 83 fun x5 h => 
  sLdN h x5 4 fun x11 =>
  grid_Grid_Blit_c x0 x0 x11 x2 x3 h fun x14 h_1 => 
  R x14 h_1
set_option maxRecDepth 100000 in
theorem grid_Grid_Copy_runs {x0 x1 x2 x3 : Value} {h : Heap} {R : Value → Heap → Prop} (H : grid_Grid_Copy_S x0 x1 x2 x3 h R) : grid_Grid_Copy_c x0 x1 x2 x3 h R := by
 unfold grid_Grid_Copy_S at H
 refine runsof (b := (mk (Ap [x0,x1,x2,x3] 11))) call77 func77 rfl fun w0 HA => wp_seq (lwp_list ?_)
 refine lsd 5 HA (dbox H) fun x5 h w H HA => lsassign (.int .i64 0) <| ls_nil (then_normal ?_)
 refine freq (mk (Ap [x0,x1,x2,x3,ud,x5,ud,ud,(.int .i64 0)] 6)) <| wp_seq (lwp_list ?_)
 refine lsmove x0 <| lsmove x0 <| lsy 11 HA (yldn isAgg83 sizeOf83 H) fun x11 H => lsmove x2 <| lsmove x3 <| lsd 14 HA (dcall H) fun x14 h_1 w_1 H HA_1 => lsassign x14 <| ls_nil (then_normal ?_)
 refine freq (mk [x0,x1,x2,x3,ud,x5,ud,ud,x14,x0,x0,x11,x2,x3,x14]) <| wp_ret <| end1 (results77) (by kernel_rfl) (by kernel_rfl) HA_1 H _ (.inr rfl)

end Go.Proofs.YtmhhjpfkipficaaDoor


end

section
/- Grids: cells copied to another place. -/
set_option linter.unusedSimpArgs false
set_option linter.unusedVariables false
namespace Go.Proofs.YtmhhjpfkipficaaDoor
open Go Go.HW

abbrev CV := {v : Value // Cell1 v}
def encCV (c : CV) : List Value := [c.1]
theorem encCV_len (c : CV) : (encCV c).length = 1 := rfl
theorem encCV_cell (c : CV) : ∀ u ∈ encCV c, Cell1 u := by intro u hu; simp [encCV] at hu; subst hu; exact c.2
/-- Rows by themselves. -/
def rowsP (rs : List (CV × List Ce)) : HP := HP.all (rs.map fun p => Sl encCe 4 p.1.1 p.2)
def allR (w g : Int) : Rc := ⟨0, 0, w, g⟩
/-- Where it comes from, moved; and what of it is there. -/
def frR (r : Rc) (w g x y : Int) : Rc := ⟨(r.both (allR w g)).x + x - r.x, (r.both (allR w g)).y + y - r.y, (r.both (allR w g)).w, (r.both (allR w g)).h⟩
def itR (r : Rc) (w g x y w' g' : Int) : Rc := (frR r w g x y).both (allR w' g')
theorem mx_le (a b : Int) : a ≤ mx a b ∧ b ≤ mx a b := by unfold mx; split <;> omega
theorem mn_le (a b : Int) : mn a b ≤ a ∧ mn a b ≤ b := by unfold mn; split <;> omega
theorem both_in {a : Rc} {w g : Int} (he : (a.both (allR w g)).empty = false) : (1 ≤ (a.both (allR w g)).w ∧ 1 ≤ (a.both (allR w g)).h) ∧ (0 ≤ (a.both (allR w g)).x ∧ (a.both (allR w g)).x + (a.both (allR w g)).w ≤ w) ∧ (0 ≤ (a.both (allR w g)).y ∧ (a.both (allR w g)).y + (a.both (allR w g)).h ≤ g) ∧ (a.x ≤ (a.both (allR w g)).x ∧ (a.both (allR w g)).x + (a.both (allR w g)).w ≤ a.x + a.w) ∧ (a.y ≤ (a.both (allR w g)).y ∧ (a.both (allR w g)).y + (a.both (allR w g)).h ≤ a.y + a.h) := by
  unfold Rc.empty at he
  simp only [Bool.or_eq_false_iff, decide_eq_false_iff_not] at he
  generalize hq : a.both (allR w g) = q at he ⊢
  unfold Rc.both at hq
  split at hq
  · unfold rof at hq
    split at hq
    · rw [← hq] at he; simp at he
    · have m1 := mx_le a.x (allR w g).x
      have m2 := mx_le a.y (allR w g).y
      have m3 := mn_le (a.x + a.w) ((allR w g).x + (allR w g).w)
      have m4 := mn_le (a.y + a.h) ((allR w g).y + (allR w g).h)
      have z1 : (allR w g).x = 0 := rfl
      have z2 : (allR w g).y = 0 := rfl
      have z3 : (allR w g).w = w := rfl
      have z4 : (allR w g).h = g := rfl
      rw [← hq] at he ⊢
      simp only at he ⊢
      omega
  · rw [← hq] at he; simp at he
theorem geo {r : Rc} {w g x y w' g' : Int} (he : (itR r w g x y w' g').empty = false) :
    (0 ≤ (itR r w g x y w' g').x - x + r.x ∧ (itR r w g x y w' g').x - x + r.x + (itR r w g x y w' g').w ≤ w) ∧ (0 ≤ (itR r w g x y w' g').y - y + r.y ∧ (itR r w g x y w' g').y - y + r.y + (itR r w g x y w' g').h ≤ g) ∧ (0 ≤ (itR r w g x y w' g').x ∧ (itR r w g x y w' g').x + (itR r w g x y w' g').w ≤ w') ∧ (0 ≤ (itR r w g x y w' g').y ∧ (itR r w g x y w' g').y + (itR r w g x y w' g').h ≤ g') ∧ 1 ≤ (itR r w g x y w' g').w ∧ 1 ≤ (itR r w g x y w' g').h := by
  unfold itR at *
  obtain ⟨h1, h2, h3, h4, h5⟩ := both_in he
  have f1 : (frR r w g x y).x = (r.both (allR w g)).x + x - r.x := rfl
  have f2 : (frR r w g x y).y = (r.both (allR w g)).y + y - r.y := rfl
  have f3 : (frR r w g x y).w = (r.both (allR w g)).w := rfl
  have f4 : (frR r w g x y).h = (r.both (allR w g)).h := rfl
  have he0 : (r.both (allR w g)).empty = false := by
    unfold Rc.empty
    simp only [Bool.or_eq_false_iff, decide_eq_false_iff_not]
    omega
  obtain ⟨k1, k2, k3, k4, k5⟩ := both_in he0
  omega
/-- Row k of what is copied. -/
def srow (l : List Ce) (w x0 y0 n : Int) (k : Nat) : List Ce := (((l.take ((y0 + k + 1) * w).toNat).drop ((y0 + k) * w).toNat).take (x0 + n).toNat).drop x0.toNat
def putRows (l' : List Ce) (w' x1 y1 : Int) (rows : Nat → List Ce) : Nat → List Ce
  | 0 => l'
  | k + 1 => setAll (putRows l' w' x1 y1 rows k) ((y1 + k) * w' + x1).toNat (rows k)
theorem putRows_len (l' : List Ce) (w' x1 y1 : Int) (rows : Nat → List Ce) : ∀ k, (putRows l' w' x1 y1 rows k).length = l'.length
  | 0 => rfl
  | k + 1 => by rw [putRows, setAll_len, putRows_len l' w' x1 y1 rows k]

section
variable {h0 h : Heap} {F : List HP} {R : Value → Heap → Prop}
theorem srow_len {l : List Ce} {w g x0 y0 n : Int} {k : Nat} (z : szOk w g l) (hx : 0 ≤ x0 ∧ x0 + n ≤ w) (hn : 1 ≤ n) (hy : 0 ≤ y0 + k ∧ y0 + k < g) : (srow l w x0 y0 n k).length = n.toNat := by
  obtain ⟨z1, z2, z3, z4, z5⟩ := z
  have m := sz_mul ⟨z1, z2⟩ z4 hy
  rw [Int.mul_comm w g] at z5
  unfold srow
  simp only [List.length_drop, List.length_take]
  omega
/-- The rows are read. -/
theorem l3_spec {kg k7 k12 : Nat} {w g x y : Int} {v : Value} {l : List Ce} {r it : Rc} {x1 : Value} (z : szOk w g l) (wx : -1073741824 ≤ x ∧ x ≤ 1073741824) (wy : -1073741824 ≤ y ∧ y ≤ 1073741824) (hr : r.Ok) (hit : (0 ≤ it.x ∧ it.x ≤ 512) ∧ (0 ≤ it.y ∧ it.y ≤ 512))
    (hx : 0 ≤ it.x - x + r.x ∧ it.x - x + r.x + it.w ≤ w) (hy : 0 ≤ it.y - y + r.y ∧ it.y - y + r.y + it.h ≤ g) (hw : 1 ≤ it.w) (hh : 1 ≤ it.h)
    (s : HW.Sep h0 (Blk k7 r.c 83 :: Blk k12 it.c 83 :: Blk kg (grd w g v) 89 :: Sl encCe 4 v l :: F) h)
    (H : ∀ (xv : Value) (rs : List (CV × List Ce)) h', (rs.length : Int) = it.h → (∀ i p, rs[i]? = some p → p.2 = srow l w (it.x - x + r.x) (it.y - y + r.y) it.w i) → HW.Sep h0 (rowsP rs :: Sl encCV 1 xv (rs.map (·.1)) :: Blk k12 it.c 83 :: Blk kg (grd w g v) 89 :: Sl encCe 4 v l :: F) h' →
      (sLen xv fun x100 => sLoop (S := Value) (fun nxt s h => grid_Grid_Blit_l4 R x1 (ptr k12 0) xv x100 (fun x101' h => nxt x101' h) s h) (.int .i64 0) h')) :
    sLoop (S := Value × Value) (fun nxt s h => grid_Grid_Blit_l3 R (ptr kg 0) x1 (.int .i64 x) (.int .i64 y) (ptr k7 0) (ptr k12 0) (.int .i64 it.h) (fun x13' x67' h => nxt (x13', x67') h) s.1 s.2 h) ((.slice none 0 0), (.int .i64 0)) h := by
  have zz := z
  obtain ⟨z1, z2, z3, z4, z5⟩ := zz
  refine ⟨fun t h' => ∃ (k : Nat) (xv : Value) (rs : List (CV × List Ce)), (k : Int) ≤ it.h ∧ t = (xv, .int .i64 k) ∧ rs.length = k ∧ (∀ i p, rs[i]? = some p → p.2 = srow l w (it.x - x + r.x) (it.y - y + r.y) it.w i) ∧ HW.Sep h0 (rowsP rs :: Sl encCV 1 xv (rs.map (·.1)) :: Blk k7 r.c 83 :: Blk k12 it.c 83 :: Blk kg (grd w g v) 89 :: Sl encCe 4 v l :: F) h', fun t _ => match t with | (_, .int _ k) => (it.h - k).toNat | _ => 0, ⟨0, _, [], by omega, rfl, rfl, by simp, (sep_nil s).shut_all (L := [])⟩, ?_⟩
  rintro _ h1 ⟨k, xv, rs, hk, rfl, hlen, hrs, s1⟩
  simp only []
  unfold grid_Grid_Blit_l3
  rw [ev_lt, ev_if]
  by_cases hlt : (k : Int) < it.h
  · rw [if_pos (decide_eq_true hlt)]
    have b7 : h1.has k7 r.c 83 := s1.b2.has
    have b12 : h1.has k12 it.c 83 := s1.b3.has
    have f0 : ∀ {K : Value → Prop}, sLd h1 (ptr k12 0) K = K (.int .i64 it.x) := ev_ld_has b12 rfl
    have g0 : ∀ {K : Value → Prop}, sLd h1 (ptr k7 0) K = K (.int .i64 r.x) := ev_ld_has b7 rfl
    obtain ⟨r1, r2, r3, r4⟩ := hr
    simp only [ev_off, Nat.zero_add, f0, g0, ev_sub, ev_add]
    rw [wrap_i64 (x := it.x - x) (by omega) (by omega), wrap_i64 (by omega) (by omega)]
    refine ⟨fun h' => h'.has k7 r.c 83 ∧ h'.has k12 it.c 83, ⟨b7, b12⟩, ?_⟩
    have c7 : ∀ {o : Nat} {u : Value} {K : Value → Prop}, r.c[o]? = some u → sLdC (fun h' => h'.has k7 r.c 83 ∧ h'.has k12 it.c 83) (ptr k7 o) K = K u := fun hv => ldc_at (C := fun h' => h'.has k7 r.c 83 ∧ h'.has k12 it.c 83) (h0 := h1) ⟨b7, b12⟩ (fun h' e => by rw [e.1.at, hv])
    have c12 : ∀ {o : Nat} {u : Value} {K : Value → Prop}, it.c[o]? = some u → sLdC (fun h' => h'.has k7 r.c 83 ∧ h'.has k12 it.c 83) (ptr k12 o) K = K u := fun hv => ldc_at (C := fun h' => h'.has k7 r.c 83 ∧ h'.has k12 it.c 83) (h0 := h1) ⟨b7, b12⟩ (fun h' e => by rw [e.2.at, hv])
    have f1 : ∀ {K : Value → Prop}, sLd h1 (ptr k12 1) K = K (.int .i64 it.y) := ev_ld_has b12 rfl
    have g1 : ∀ {K : Value → Prop}, sLd h1 (ptr k7 1) K = K (.int .i64 r.y) := ev_ld_has b7 rfl
    rw [f1, ev_sub, wrap_i64 (x := it.y - y) (by omega) (by omega), g1, ev_add, wrap_i64 (x := it.y - y + r.y) (by omega) (by omega), ev_add, wrap_i64 (x := it.y - y + r.y + k) (by omega) (by omega)]
    have hyk : 0 ≤ it.y - y + r.y + k ∧ it.y - y + r.y + k < g := by omega
    have s1g : HW.Sep h0 (Blk kg (grd w g v) 89 :: Sl encCe 4 v l :: rowsP rs :: Sl encCV 1 xv (rs.map (·.1)) :: Blk k7 r.c 83 :: Blk k12 it.c 83 :: F) h1 := s1.b5.b5
    refine row_spec s1g z hyk ⟨⟨b7, b12⟩, ?_⟩
    rw [c12 (o := 2) (u := .int .i64 it.w) rfl, ev_add, wrap_i64 (by omega) (by omega)]
    have m := sz_mul ⟨z1, z2⟩ z4 hyk
    rw [Int.mul_comm w g] at z5
    have rd : HW.Rd encCe 4 h0 (Blk kg (grd w g v) 89 :: Sl encCe 4 v l :: rowsP rs :: Sl encCV 1 xv (rs.map (·.1)) :: Blk k7 r.c 83 :: Blk k12 it.c 83 :: F) v l := Rd.own1
    have rd1 := rd.cut (i := ((it.y - y + r.y + k) * w).toNat) (j := ((it.y - y + r.y + k + 1) * w).toNat) (by omega) (by omega)
    have q1 := rd1.at0 s1g
    have l1 : ((l.take ((it.y - y + r.y + k + 1) * w).toNat).drop ((it.y - y + r.y + k) * w).toNat).length = w.toNat := by simp only [List.length_drop, List.length_take]; omega
    obtain ⟨a, ha⟩ : ∃ a : Nat, it.x - x + r.x = a := ⟨(it.x - x + r.x).toNat, by omega⟩
    obtain ⟨b, hb⟩ : ∃ b : Nat, it.x - x + r.x + it.w = b := ⟨(it.x - x + r.x + it.w).toNat, by omega⟩
    rw [hb, ha]
    refine q1.slK (i := a) (j := b) (by omega) (by rw [l1]; omega) ⟨.i64, rfl⟩ ⟨.i64, rfl⟩ ?_
    have rd2 := rd1.cut (i := a) (j := b) (by omega) (by rw [l1]; omega)
    have hsr : srow l w (it.x - x + r.x) (it.y - y + r.y) it.w k = (((l.take ((it.y - y + r.y + k + 1) * w).toNat).drop ((it.y - y + r.y + k) * w).toNat).take b).drop a := by unfold srow; rw [hb, ha, Int.toNat_natCast, Int.toNat_natCast]
    rw [← hsr] at rd2
    have l2 := srow_len (k := k) z hx hw (by omega)
    refine clone_cells rd2 s1g (by rw [l2]; omega) (by rw [l2]; omega) (fun v' h2 c2 s2 => ?_)
    obtain ⟨va, vn, vm, rfl, _⟩ := s2.seq
    refine s2.slit (enc := encCV) (sz := 1) encCV_len [⟨.slice va vn vm, c2⟩] rfl ⟨rfl, Nat.le_of_ble_eq_true rfl, rfl⟩ (fun lv h3 _ s3 => ?_)
    have s3' : HW.Sep h0 (Sl encCV 1 xv (rs.map (·.1)) :: Sl encCV 1 lv [⟨.slice va vn vm, c2⟩] :: Sl encCe 4 (.slice va vn vm) (srow l w (it.x - x + r.x) (it.y - y + r.y) it.w k) :: Blk kg (grd w g v) 89 :: Sl encCe 4 v l :: rowsP rs :: Blk k7 r.c 83 :: Blk k12 it.c 83 :: F) h3 := s3.b5
    refine s3'.app (enc := encCV) (sz := 1) rfl (by decide) encCV_len encCV_cell s3.seq (by simp only [List.length_map, List.length_cons, List.length_nil]; omega) (by decide) (fun xv' h4 _ s4 => ?_)
    rw [wrap_i64 (x := (k : Int) + 1) (by omega) (by omega)]
    refine ⟨⟨k + 1, xv', rs ++ [(⟨.slice va vn vm, c2⟩, srow l w (it.x - x + r.x) (it.y - y + r.y) it.w k)], by omega, by rw [Int.natCast_add]; rfl, by simp [hlen], ?_, ?_⟩, by omega⟩
    · intro i p hp
      rw [← ha]
      by_cases hi : i < rs.length
      · rw [List.getElem?_append_left hi] at hp; exact hrs i p hp
      · rw [List.getElem?_append_right (by omega)] at hp
        have : i = k := by
          have := (List.getElem?_eq_some_iff.1 hp).1
          simp at this; omega
        subst this
        rw [hlen, Nat.sub_self] at hp
        cases hp; rfl
    · have s5 := s4.drop1
      -- xv', row, kg, v, rows, k7, k12, F
      have s6 : HW.Sep h0 (rowsP rs :: Sl encCe 4 (.slice va vn vm) (srow l w (it.x - x + r.x) (it.y - y + r.y) it.w k) :: Sl encCV 1 xv' (rs.map (·.1) ++ [⟨.slice va vn vm, c2⟩]) :: Blk k7 r.c 83 :: Blk k12 it.c 83 :: Blk kg (grd w g v) 89 :: Sl encCe 4 v l :: F) h4 := by
        exact s5.b3.b3.b6.b6.b4.b5.b6
      have s7 := HW.Sep.push s6
      rw [rowsP, List.map_append, List.map_append]
      exact s7
  · rw [if_neg (by simpa using hlt)]
    exact H xv rs h1 (by omega) hrs (s1.b2.tail)
theorem cutP_cutP {v : Value} {l : List Ce} {a b X : Nat} (q : Seq encCe 4 h v l) (h1 : a + X < b) (h2 : b ≤ l.length) : HW.cutP (HW.cutP v a b 4) X (b - a) 4 = HW.cutP v (a + X) b 4 := by
  obtain ⟨va, n, m, rfl, hn, hm, h3 | ⟨bb, o, rfl, hb, hc⟩⟩ := q
  · omega
  · simp only [HW.cutP, cutV]
    rw [if_neg (show ¬ m = a by omega), if_neg (show ¬ m - a = X by omega), if_neg (show ¬ m = a + X by omega)]
    simp only [Option.map_some, Addr.add]
    have e1 : b - a - X = b - (a + X) := by omega
    have e2 : m - a - X = m - (a + X) := by omega
    rw [e1, e2]
    congr 2
    by_cases ha : a * 4 = 0
    · have : a = 0 := by omega
      subst this
      simp
    · rw [if_neg ha]
      by_cases hX : X * 4 = 0
      · have : X = 0 := by omega
        subst this
        rw [if_pos (by omega), if_neg (by omega)]; rfl
      · rw [if_neg hX, if_neg (by omega)]
        simp only [Addr.mk.injEq, and_true, true_and]
        omega
theorem rows_seq {rs : List (CV × List Ce)} {k : Nat} {p : CV × List Ce} (s : HW.Sep h0 (rowsP rs :: F) h) (hp : rs[k]? = some p) : Seq encCe 4 h p.1.1 p.2 := by
  obtain ⟨A, B, e⟩ := List.append_of_mem (List.mem_of_getElem? hp)
  have s2 := s.open_all
  rw [e, List.map_append, List.map_cons, List.append_assoc, List.cons_append] at s2
  exact (s2.perm List.perm_middle).seq
/-- The rows are put. -/
theorem l4_spec {kt k12 : Nat} {w' g' x0 y0 : Int} {v' xv : Value} {l l' : List Ce} {w : Int} {it : Rc} {rs : List (CV × List Ce)} (z' : szOk w' g' l')
    (hx : 0 ≤ it.x ∧ it.x + it.w ≤ w') (hy : 0 ≤ it.y ∧ it.y + it.h ≤ g') (hw : 1 ≤ it.w) (hh : 1 ≤ it.h) (har : it.area = it.w * it.h)
    (hlen : (rs.length : Int) = it.h) (hrs : ∀ i p, rs[i]? = some p → p.2 = srow l w x0 y0 it.w i) (hsl : ∀ k, k < rs.length → (srow l w x0 y0 it.w k).length = it.w.toNat)
    (s : HW.Sep h0 (rowsP rs :: Sl encCV 1 xv (rs.map (·.1)) :: Blk k12 it.c 83 :: Blk kt (grd w' g' v') 89 :: Sl encCe 4 v' l' :: F) h)
    (H : ∀ h', HW.Sep h0 (Blk kt (grd w' g' v') 89 :: Sl encCe 4 v' (putRows l' w' it.x it.y (srow l w x0 y0 it.w) it.h.toNat) :: F) h' → R (.int .i64 (it.w * it.h)) h') :
    (sLen xv fun x100 => sLoop (S := Value) (fun nxt s h => grid_Grid_Blit_l4 R (ptr kt 0) (ptr k12 0) xv x100 (fun x101' h => nxt x101' h) s h) (.int .i64 0) h) := by
  have zz := z'
  obtain ⟨z1, z2, z3, z4, z5⟩ := zz
  rw [s.b1.seq.len, List.length_map]
  refine ⟨fun t h' => ∃ (k : Nat), k ≤ rs.length ∧ t = .int .i64 k ∧ HW.Sep h0 (rowsP rs :: Sl encCV 1 xv (rs.map (·.1)) :: Blk k12 it.c 83 :: Blk kt (grd w' g' v') 89 :: Sl encCe 4 v' (putRows l' w' it.x it.y (srow l w x0 y0 it.w) k) :: F) h', fun t _ => match t with | .int _ k => (rs.length - k).toNat | _ => 0, ⟨0, Nat.zero_le _, rfl, s⟩, ?_⟩
  rintro _ h1 ⟨k, hk, rfl, s1⟩
  simp only []
  unfold grid_Grid_Blit_l4
  rw [ev_lt, ev_if]
  by_cases hlt : k < rs.length
  · rw [if_pos (by simpa using hlt)]
    obtain ⟨p, hp⟩ : ∃ p, rs[k]? = some p := ⟨rs[k], List.getElem?_eq_getElem hlt⟩
    have hp1 : (rs.map (·.1))[k]? = some p.1 := by rw [List.getElem?_map, hp]; rfl
    rw [s1.b1.seq.ld hp1 rfl]
    have b12 : h1.has k12 it.c 83 := s1.b2.has
    refine ⟨fun h' => h'.has k12 it.c 83, b12, ?_⟩
    have c12 : ∀ {o : Nat} {u : Value} {K : Value → Prop}, it.c[o]? = some u → sLdC (fun h' => h'.has k12 it.c 83) (ptr k12 o) K = K u := fun hv => ldc_at (C := fun h' => h'.has k12 it.c 83) (h0 := h1) b12 (fun h' e => by rw [e.at, hv])
    have f1 : ∀ {K : Value → Prop}, sLd h1 (ptr k12 1) K = K (.int .i64 it.y) := ev_ld_has b12 rfl
    rw [ev_off, Nat.zero_add, f1, ev_add, wrap_i64 (by omega) (by omega)]
    have hyk : 0 ≤ it.y + k ∧ it.y + k < g' := by omega
    have zk : szOk w' g' (putRows l' w' it.x it.y (srow l w x0 y0 it.w) k) := by unfold szOk; rw [putRows_len]; exact z'
    have s1g : HW.Sep h0 (Blk kt (grd w' g' v') 89 :: Sl encCe 4 v' (putRows l' w' it.x it.y (srow l w x0 y0 it.w) k) :: rowsP rs :: Sl encCV 1 xv (rs.map (·.1)) :: Blk k12 it.c 83 :: F) h1 := s1.b4.b4
    refine row_spec s1g zk hyk ⟨b12, ?_⟩
    rw [ev_off, c12 (u := .int .i64 it.x) rfl]
    have m := sz_mul ⟨z1, z2⟩ z4 hyk
    rw [Int.mul_comm w' g'] at z5
    obtain ⟨a, ha⟩ : ∃ a : Nat, (it.y + k) * w' = a := ⟨((it.y + k) * w').toNat, by omega⟩
    obtain ⟨b, hb⟩ : ∃ b : Nat, (it.y + k + 1) * w' = b := ⟨((it.y + k + 1) * w').toNat, by omega⟩
    obtain ⟨X, hX⟩ : ∃ X : Nat, it.x = X := ⟨it.x.toNat, by omega⟩
    rw [ha, hb, hX, Int.toNat_natCast, Int.toNat_natCast]
    have hlk : (putRows l' w' it.x it.y (srow l w x0 y0 it.w) k).length = l'.length := putRows_len _ _ _ _ _ _
    rw [hX] at hlk s1g
    have qv := s1g.b1.seq
    have qc := qv.cutP (i := a) (j := b) (by omega) (by omega)
    refine qc.slK (i := X) (j := b - a) (by omega) (by simp only [List.length_drop, List.length_take]; omega) ⟨.i64, rfl⟩ (by show bnd none _ (b - a); simp only [bnd, List.length_drop, List.length_take]; omega) ?_
    rw [cutP_cutP qv (by omega) (by omega)]
    have hpl : p.2.length = it.w.toNat := by rw [hrs k p hp]; exact hsl k hlt
    have qs := rows_seq s1 hp
    refine s1g.b1.copy encCe_len encCe_cell qs (by omega) (i := a + X) (j := b) (by omega) (by omega) (fun h2 s2 => ?_)
    rw [ev_add, wrap_i64 (by omega) (by omega)]
    refine ⟨⟨k + 1, hlt, by rw [Int.natCast_add]; rfl, ?_⟩, by simp only; omega⟩
    have e : putRows l' w' (X : Int) it.y (srow l w x0 y0 it.w) (k + 1) = setAll (putRows l' w' (X : Int) it.y (srow l w x0 y0 it.w) k) (a + X) p.2 := by
      rw [putRows, ha, hrs k p hp]
      congr 1
    rw [e]
    exact s2.b1.b4.b4.b4
  · have : k = rs.length := by omega
    subst this
    rw [if_neg (by simp)]
    rw [s1.b2.ldall (n := 4) rfl]
    refine rarea_spec (r := it) (fun h2 e2 => ?_)
    rw [har]
    refine H h2 ?_
    have s2 := (s1.ext' e2).tail2.tail
    have e : rs.length = it.h.toNat := by omega
    rw [e] at s2
    exact s2
/-- A copy within one grid. -/
theorem j2_spec {kg k7 k11 k12 : Nat} {w g x y : Int} {v : Value} {l : List Ce} {r fr it : Rc} (z : szOk w g l) (wx : -1073741824 ≤ x ∧ x ≤ 1073741824) (wy : -1073741824 ≤ y ∧ y ≤ 1073741824) (hr : r.Ok) (hfr : fr = frR r w g x y) (hit : it = itR r w g x y w g)
    (s : HW.Sep h0 (Blk k12 it.c 83 :: Blk k11 fr.c 83 :: Blk k7 r.c 83 :: Blk kg (grd w g v) 89 :: Sl encCe 4 v l :: F) h)
    (H0 : (fr.empty || it.empty) = true → ∀ h', HW.Sep h0 (Blk kg (grd w g v) 89 :: Sl encCe 4 v l :: F) h' → R (.int .i64 0) h')
    (H1 : (fr.empty || it.empty) = false → ∀ h', HW.Sep h0 (Blk kg (grd w g v) 89 :: Sl encCe 4 v (putRows l w it.x it.y (srow l w (it.x - x + r.x) (it.y - y + r.y) it.w) it.h.toNat) :: F) h' → R (.int .i64 (it.w * it.h)) h') :
    grid_Grid_Blit_j2 R (ptr kg 0) (ptr kg 0) (.int .i64 x) (.int .i64 y) (ptr k7 0) (ptr k11 0) (ptr k12 0) h := by
  unfold grid_Grid_Blit_j2
  rw [s.b1.ldall (n := 4) rfl]
  refine rempty_spec (r := fr) (fun h1 e1 => ?_)
  have s1 := s.ext' e1
  refine or_ext (y := it.empty) (fun _ K' HK => by
    rw [s1.ldall (n := 4) rfl]
    exact rempty_spec (r := it) (fun h2 e2 => HK _ e2)) (fun h2 e2 => ?_)
  have s2 := s1.ext' e2
  rw [ev_if]
  cases he : (fr.empty || it.empty) with
  | true => rw [if_pos rfl]; exact H0 he h2 (s2.tail2.tail)
  | false =>
    rw [if_neg (by decide)]
    have hie : it.empty = false := (Bool.or_eq_false_iff.1 he).2
    rw [hit] at hie
    obtain ⟨g1, g2, g3, g4, g5, g6⟩ := geo hie
    rw [← hit] at g1 g2 g3 g4 g5 g6
    have zz := z
    obtain ⟨z1, z2, z3, z4, z5⟩ := zz
    have f3 : ∀ {K : Value → Prop}, sLd h2 (ptr k12 3) K = K (.int .i64 it.h) := s2.ld rfl
    rw [ev_off, Nat.zero_add, f3]
    have har : it.area = it.w * it.h := by
      unfold Rc.area
      have : it.right = true := (Rc.right_iff it).2 (by unfold Rc.Ok; omega)
      rw [this]
      have : it.empty = false := by rw [hit]; exact hie
      rw [this]; rfl
    refine l3_spec (x1 := ptr kg 0) z wx wy hr ⟨by omega, by omega⟩ g1 g2 g5 g6 (s2.drop1.b1) (fun xv rs h3 hl hrs s3 => ?_)
    refine l4_spec z g3 g4 g5 g6 har hl hrs (fun k hk => srow_len z g1 g5 (by omega)) s3 (fun h4 s4 => H1 he h4 s4)
theorem both_rng {a : Rc} {w g : Int} (hw : 1 ≤ w ∧ w ≤ 512) (hg : 1 ≤ g ∧ g ≤ 512) : (0 ≤ (a.both (allR w g)).x ∧ (a.both (allR w g)).x ≤ 512) ∧ (0 ≤ (a.both (allR w g)).y ∧ (a.both (allR w g)).y ≤ 512) := by
  cases he : (a.both (allR w g)).empty with
  | false =>
    obtain ⟨h1, h2, h3, _, _⟩ := both_in he
    omega
  | true =>
    unfold Rc.empty at he
    simp only [Bool.or_eq_true, decide_eq_true_eq] at he
    generalize hq : a.both (allR w g) = q at he ⊢
    unfold Rc.both at hq
    split at hq
    · unfold rof at hq
      split at hq
      · rw [← hq]; simp
      · rw [← hq] at he; simp only at he; omega
    · rw [← hq]; simp
abbrev z4 : Array Value := #[.int .i64 0, .int .i64 0, .int .i64 0, .int .i64 0]
theorem three {C : Heap → Prop} {a : Rc} {kg : Nat} {w g : Int} {v : Value} {J : Value → Heap → Prop} {F : List HP} (hC : ∀ h', Ext h h' → C h') (s : HW.Sep h0 F h) (sg : ∃ G, HW.Sep h0 (Blk kg (grd w g v) 89 :: G) h)
    (HJ : ∀ n h', HW.Sep h0 (Blk n (a.both (allR w g)).c 83 :: F) h' → J (ptr n 0) h') :
    (grid_Grid_all_c (ptr kg 0) h (fun x37 h_31 => C h_31 ∧ ((rect_Both_c a.v x37 h_31 fun x38 h_32 => sNew h_32 z4 83 fun n h_33 => C h_33 ∧ (sStN h_33 n x38 4 fun h_34 => J n h_34)) ∧ (sNew h_31 z4 83 fun n h_35 => C h_35 ∧ (rect_Both_c a.v x37 h_35 fun x38 h_36 => sStN h_36 n x38 4 fun h_37 => J n h_37))))) ∧
    (sNew h z4 83 fun n h_38 => C h_38 ∧ (grid_Grid_all_c (ptr kg 0) h_38 fun x37 h_39 => C h_39 ∧ (rect_Both_c a.v x37 h_39 fun x38 h_40 => sStN h_40 n x38 4 fun h_41 => J n h_41))) := by
  obtain ⟨G, sg⟩ := sg
  refine ⟨?_, ?_⟩
  · refine all_spec sg (fun h1 e1 => ⟨hC _ e1, ?_, ?_⟩)
    · refine rboth_spec (a := a) (b := allR w g) (fun h2 e2 => ?_)
      refine (HW.Sep.start h2).new (fun n h3 s3 => ⟨hC _ ((e1.trans e2).trans s3.ext), ?_⟩)
      have s4 := (s.ext' (e1.trans e2)).add s3
      exact HW.Sep.stall s4 (cs := (a.both (allR w g)).c) rfl rfl (Rc.cell1 _) (fun h4 s5 => HJ n h4 s5)
    · refine (HW.Sep.start h1).new (fun n h3 s3 => ⟨hC _ (e1.trans s3.ext), ?_⟩)
      refine rboth_spec (a := a) (b := allR w g) (fun h2 e2 => ?_)
      have s4 := ((s.ext' e1).add s3).ext' e2
      exact HW.Sep.stall s4 (cs := (a.both (allR w g)).c) rfl rfl (Rc.cell1 _) (fun h4 s5 => HJ n h4 s5)
  · refine (HW.Sep.start h).new (fun n h3 s3 => ⟨hC _ s3.ext, ?_⟩)
    refine all_spec (sg.ext' s3.ext) (fun h1 e1 => ⟨hC _ (s3.ext.trans e1), ?_⟩)
    refine rboth_spec (a := a) (b := allR w g) (fun h2 e2 => ?_)
    have s4 := ((s.add s3).ext' e1).ext' e2
    exact HW.Sep.stall s4 (cs := (a.both (allR w g)).c) rfl rfl (Rc.cell1 _) (fun h4 s5 => HJ n h4 s5)
theorem j1_spec {kg k7 k11 : Nat} {w g x y : Int} {v : Value} {l : List Ce} {r : Rc} (z : szOk w g l) (wx : -1073741824 ≤ x ∧ x ≤ 1073741824) (wy : -1073741824 ≤ y ∧ y ≤ 1073741824) (hr : r.Ok)
    (s : HW.Sep h0 (Blk k11 (r.both (allR w g)).c 83 :: Blk k7 r.c 83 :: Blk kg (grd w g v) 89 :: Sl encCe 4 v l :: F) h)
    (H0 : ((frR r w g x y).empty || (itR r w g x y w g).empty) = true → ∀ h', HW.Sep h0 (Blk kg (grd w g v) 89 :: Sl encCe 4 v l :: F) h' → R (.int .i64 0) h')
    (H1 : ((frR r w g x y).empty || (itR r w g x y w g).empty) = false → ∀ h', HW.Sep h0 (Blk kg (grd w g v) 89 :: Sl encCe 4 v (putRows l w (itR r w g x y w g).x (itR r w g x y w g).y (srow l w ((itR r w g x y w g).x - x + r.x) ((itR r w g x y w g).y - y + r.y) (itR r w g x y w g).w) (itR r w g x y w g).h.toNat) :: F) h' → R (.int .i64 ((itR r w g x y w g).w * (itR r w g x y w g).h)) h') :
    grid_Grid_Blit_j1 R (ptr kg 0) (ptr kg 0) (.int .i64 x) (.int .i64 y) (ptr k7 0) (ptr k11 0) h := by
  unfold grid_Grid_Blit_j1
  have zz := z
  obtain ⟨z1, z2, z3, z4', z5⟩ := zz
  have rg := both_rng (a := r) (w := w) (g := g) ⟨z1, z2⟩ ⟨z3, z4'⟩
  obtain ⟨r1, r2, r3, r4⟩ := hr
  have b7 : h.has k7 r.c 83 := s.b1.has
  refine ⟨fun h' => h'.has k7 r.c 83, b7, ?_⟩
  have f0 : ∀ {K : Value → Prop}, sLd h (ptr k11 0) K = K (.int .i64 (r.both (allR w g)).x) := s.ld rfl
  have f1 : ∀ {K : Value → Prop}, sLd h (ptr k11 1) K = K (.int .i64 (r.both (allR w g)).y) := s.ld rfl
  have g0 : ∀ {K : Value → Prop}, sLd h (ptr k7 0) K = K (.int .i64 r.x) := ev_ld_has b7 rfl
  have g1 : ∀ {K : Value → Prop}, sLd h (ptr k7 1) K = K (.int .i64 r.y) := ev_ld_has b7 rfl
  have c7 : ∀ {o : Nat} {u : Value} {K : Value → Prop}, r.c[o]? = some u → sLdC (fun h' => h'.has k7 r.c 83) (ptr k7 o) K = K u := fun hv => ldc_at (C := fun h' => h'.has k7 r.c 83) (h0 := h) b7 (fun h' e => by rw [e.at, hv])
  have c1 := @c7 1 (.int .i64 r.y) 
  simp only [ev_off, Nat.zero_add, f0, f1, g0, g1, c1 rfl, ev_add, ev_sub]
  rw [wrap_i64 (x := (r.both (allR w g)).x + x) (by omega) (by omega), wrap_i64 (x := (r.both (allR w g)).x + x - r.x) (by omega) (by omega), wrap_i64 (x := (r.both (allR w g)).y + y) (by omega) (by omega), wrap_i64 (x := (r.both (allR w g)).y + y - r.y) (by omega) (by omega)]
  refine s.st (Nat.le_of_ble_eq_true rfl) trivial (fun h1 s1 => ⟨s1.b1.has, ?_⟩)
  refine s1.st (Nat.le_of_ble_eq_true rfl) trivial (fun h2 s2 => ?_)
  have s2 : HW.Sep h0 (Blk k11 (frR r w g x y).c 83 :: Blk k7 r.c 83 :: Blk kg (grd w g v) 89 :: Sl encCe 4 v l :: F) h2 := s2
  refine ⟨fun h' => h'.has k11 (frR r w g x y).c 83, s2.has, ?_⟩
  have cA : ∀ {K : Value → Prop}, sLdNC (fun h' => h'.has k11 (frR r w g x y).c 83) (ptr k11 0) 4 K = K (frR r w g x y).v := fun {K} => ldnc_all (C := fun h' => h'.has k11 (frR r w g x y).c 83) (h0 := h2) s2.has rfl (fun _ e => e)
  rw [cA]
  exact three (a := frR r w g x y) (fun h' e => e.has s2.has) s2 ⟨_, s2.b2⟩ (fun n h' s' => j2_spec z wx wy ⟨r1, r2, r3, r4⟩ rfl rfl s' H0 H1)
theorem blit_spec {kg : Nat} {w g x y : Int} {v : Value} {l : List Ce} {r : Rc} (z : szOk w g l)
    (s : HW.Sep h0 (Blk kg (grd w g v) 89 :: Sl encCe 4 v l :: F) h)
    (H0 : (!(r.right && nearB x && nearB y) || ((frR r w g x y).empty || (itR r w g x y w g).empty)) = true → ∀ h', HW.Sep h0 (Blk kg (grd w g v) 89 :: Sl encCe 4 v l :: F) h' → R (.int .i64 0) h')
    (H1 : (!(r.right && nearB x && nearB y) || ((frR r w g x y).empty || (itR r w g x y w g).empty)) = false → ∀ h', HW.Sep h0 (Blk kg (grd w g v) 89 :: Sl encCe 4 v (putRows l w (itR r w g x y w g).x (itR r w g x y w g).y (srow l w ((itR r w g x y w g).x - x + r.x) ((itR r w g x y w g).y - y + r.y) (itR r w g x y w g).w) (itR r w g x y w g).h.toNat) :: F) h' → R (.int .i64 ((itR r w g x y w g).w * (itR r w g x y w g).h)) h') :
    grid_Grid_Blit_c (ptr kg 0) (ptr kg 0) r.v (.int .i64 x) (.int .i64 y) h R := by
  apply grid_Grid_Blit_runs
  unfold grid_Grid_Blit_S
  refine s.box (c := r.c) r.cells (fun k7 h1 s1 => ?_)
  have e0 : ∀ {K : Value → Prop}, sEqlNil (ptr kg 0) K = K (.bool false) := by intro K; simp only [ptr, ev_eqlNil, Option.isNone_some]
  rw [e0]
  refine or_ext (y := !r.right) (fun _ K' HK => by
    rw [s1.ldall (n := 4) rfl]
    exact rright_spec (r := r) (fun h2 e2 => by rw [ev_not]; exact HK _ e2)) (fun h2 e2 => ?_)
  refine or_ext (y := !nearB x) (fun _ K' HK => gnear_spec (by rw [ev_not]; exact HK _ (Ext.refl _))) (fun h3 e3 => ?_)
  refine or_ext (y := !nearB y) (fun _ K' HK => gnear_spec (by rw [ev_not]; exact HK _ (Ext.refl _))) (fun h4 e4 => ?_)
  have s4 := ((s1.ext' e2).ext' e3).ext' e4
  rw [ev_if]
  have ec : (false || !r.right || !nearB x || !nearB y) = !(r.right && nearB x && nearB y) := by cases r.right <;> cases nearB x <;> cases nearB y <;> rfl
  rw [ec]
  cases hc : (r.right && nearB x && nearB y) with
  | false =>
    rw [if_pos (by decide)]
    exact H0 (by rw [hc]; rfl) h4 s4.tail
  | true =>
    rw [if_neg (by decide)]
    rw [hc] at H0 H1
    simp only [Bool.not_true, Bool.false_or] at H0 H1
    simp only [Bool.and_eq_true] at hc
    obtain ⟨⟨c1, c2⟩, c3⟩ := hc
    have wx : -1073741824 ≤ x ∧ x ≤ 1073741824 := by simpa [nearB] using c2
    have wy : -1073741824 ≤ y ∧ y ≤ 1073741824 := by simpa [nearB] using c3
    refine ⟨fun h' => h'.has k7 r.c 83, s4.has, ?_⟩
    have cA : ∀ {K : Value → Prop}, sLdNC (fun h' => h'.has k7 r.c 83) (ptr k7 0) 4 K = K r.v := fun {K} => ldnc_all (C := fun h' => h'.has k7 r.c 83) (h0 := h4) s4.has rfl (fun _ e => e)
    rw [cA]
    exact three (a := r) (fun h' e => e.has s4.has) s4 ⟨_, s4.b1⟩ (fun n h' s' => j1_spec z wx wy ((Rc.right_iff r).1 c1) s' H0 H1)
end
end Go.Proofs.YtmhhjpfkipficaaDoor


end

section
/- Grids, plain: what cells a list has. -/
set_option linter.unusedSimpArgs false
set_option linter.unusedVariables false
namespace Go.Proofs.YtmhhjpfkipficaaDoor
open Go Go.HW

theorem setAll_get : ∀ (src l : List Ce) (p i : Nat), p + src.length ≤ l.length → (setAll l p src)[i]? = if p ≤ i ∧ i < p + src.length then src[i - p]? else l[i]?
  | [], l, p, i, _ => by
    rw [if_neg (by simp only [List.length_nil]; omega)]; rfl
  | s :: r, l, p, i, hp => by
    simp only [List.length_cons] at hp ⊢
    rw [setAll, setAll_get r (l.set p s) (p + 1) i (by rw [List.length_set]; omega)]
    by_cases h1 : p ≤ i ∧ i < p + (r.length + 1)
    · rw [if_pos h1]
      by_cases h2 : i = p
      · subst h2
        rw [if_neg (by omega), List.getElem?_set_self (by omega), Nat.sub_self]; rfl
      · rw [if_pos (by omega), show i - p = (i - (p + 1)) + 1 by omega]; rfl
    · rw [if_neg h1, if_neg (by omega), List.getElem?_set_ne (by omega)]
theorem idx_ne {w x y X m Y : Int} (hw : 1 ≤ w) (hx : 0 ≤ x ∧ x < w) (hX : 0 ≤ X ∧ X + m ≤ w) : (Y * w + X ≤ y * w + x ∧ y * w + x < Y * w + X + m) ↔ (y = Y ∧ X ≤ x ∧ x < X + m) := by
  rcases Int.lt_trichotomy y Y with h | h | h
  · have h1 : (y + 1) * w ≤ Y * w := Int.mul_le_mul_of_nonneg_right (by omega) (by omega)
    rw [Int.add_mul, Int.one_mul] at h1
    omega
  · subst h; omega
  · have h1 : (Y + 1) * w ≤ y * w := Int.mul_le_mul_of_nonneg_right (by omega) (by omega)
    rw [Int.add_mul, Int.one_mul] at h1
    omega
theorem getD_of {l : List Ce} {i : Nat} : l.getD i ce0 = (l[i]?).getD ce0 := List.getD_eq_getElem?_getD ..
theorem put_getD {l : List Ce} {w g X Y m : Int} {rows : Nat → List Ce} (z : szOk w g l) (hX : 0 ≤ X ∧ X + m ≤ w) (hm : 0 ≤ m) {x y : Int} (hx : 0 ≤ x ∧ x < w) (hy : 0 ≤ y ∧ y < g) (hY : 0 ≤ Y) : ∀ n : Nat, Y + n ≤ g → (∀ k, k < n → ((rows k).length : Int) = m) → (putRows l w X Y rows n).getD (y * w + x).toNat ce0 = if X ≤ x ∧ x < X + m ∧ Y ≤ y ∧ y < Y + n then (rows (y - Y).toNat).getD (x - X).toNat ce0 else l.getD (y * w + x).toNat ce0
  | 0, _, _ => by rw [if_neg (by omega)]; rfl
  | n + 1, hn, hr => by
    have ih := put_getD z hX hm hx hy hY n (by omega) (fun k hk => hr k (by omega))
    have zz := z
    obtain ⟨z1, z2, z3, z4, z5⟩ := zz
    have m1 := sz_mul ⟨z1, z2⟩ z4 (y := Y + n) (by omega)
    have m2 := sz_mul ⟨z1, z2⟩ z4 hy
    rw [Int.mul_comm w g] at z5
    have hl := hr n (by omega)
    have ne := idx_ne (w := w) (x := x) (y := y) (X := X) (m := m) (Y := Y + n) z1 hx hX
    rw [putRows, getD_of, setAll_get _ _ _ _ (by rw [putRows_len]; omega)]
    by_cases hc : y = Y + n ∧ X ≤ x ∧ x < X + m
    · have := ne.2 hc
      rw [if_pos (by omega), if_pos (by omega), getD_of]
      obtain ⟨rfl, hx1, hx2⟩ := hc
      rw [show ((Y + n) * w + x).toNat - ((Y + n) * w + X).toNat = (x - X).toNat by omega, show (Y + n - Y).toNat = n by omega]
    · have : ¬((Y + ↑n) * w + X ≤ y * w + x ∧ y * w + x < (Y + ↑n) * w + X + m) := fun h => hc (ne.1 h)
      rw [if_neg (by omega), ← getD_of, ih]
      by_cases h2 : X ≤ x ∧ x < X + m ∧ Y ≤ y ∧ y < Y + n
      · rw [if_pos h2, if_pos (by omega)]
      · rw [if_neg h2, if_neg (by omega)]
theorem cell_put {l : List Ce} {w g X Y m x y : Int} {rows : Nat → List Ce} {n : Nat} (z : szOk w g l) (hX : 0 ≤ X ∧ X + m ≤ w) (hm : 0 ≤ m) (hY : 0 ≤ Y) (hn : Y + n ≤ g) (hr : ∀ k, k < n → ((rows k).length : Int) = m) : cell (putRows l w X Y rows n) w g x y = if X ≤ x ∧ x < X + m ∧ Y ≤ y ∧ y < Y + n then (rows (y - Y).toNat).getD (x - X).toNat ce0 else cell l w g x y := by
  unfold cell
  by_cases hin : inG w g x y = true
  · rw [if_pos hin, if_pos hin]
    obtain ⟨hx, hy⟩ := inG_iff.1 hin
    exact put_getD z hX hm hx hy hY n hn hr
  · rw [if_neg hin, if_neg hin]
    rw [if_neg (fun h => hin (inG_iff.2 (by omega)))]
theorem put_ok {l : List Ce} {w g X Y : Int} {rows : Nat → List Ce} {n : Nat} (z : szOk w g l) : szOk w g (putRows l w X Y rows n) := by unfold szOk; rw [putRows_len]; exact z
/-- Is a cell in a rectangle? -/
def Rc.has (r : Rc) (x y : Int) : Prop := r.x ≤ x ∧ x < r.x + r.w ∧ r.y ≤ y ∧ y < r.y + r.h
instance (r : Rc) (x y : Int) : Decidable (r.has x y) := by unfold Rc.has; infer_instance
theorem allR_right {w g : Int} (hw : 1 ≤ w ∧ w ≤ 512) (hg : 1 ≤ g ∧ g ≤ 512) : (allR w g).right = true := (Rc.right_iff _).2 (by unfold Rc.Ok allR; simp only; omega)
theorem both_has {a : Rc} {w g x y : Int} (hw : 1 ≤ w ∧ w ≤ 512) (hg : 1 ≤ g ∧ g ≤ 512) : (a.both (allR w g)).has x y ↔ a.right = true ∧ a.has x y ∧ inG w g x y = true := by
  rw [inG_iff]
  unfold Rc.both
  rw [allR_right hw hg, Bool.and_true]
  by_cases ha : a.right = true
  · rw [if_pos ha]
    obtain ⟨a1, a2, a3, a4⟩ := (Rc.right_iff _).1 ha
    unfold rof mx mn Rc.has allR
    simp only
    simp only [ha, true_and]
    split <;> split <;> split <;> split <;> split <;> (simp only; omega)
  · rw [if_neg ha]
    unfold Rc.has
    simp only [ha]
    simp
theorem both_area {a : Rc} {w g : Int} (hw : 1 ≤ w ∧ w ≤ 512) (hg : 1 ≤ g ∧ g ≤ 512) : (a.both (allR w g)).area = (a.both (allR w g)).w * (a.both (allR w g)).h ∧ (0 ≤ (a.both (allR w g)).x ∧ (a.both (allR w g)).x + (a.both (allR w g)).w ≤ w) ∧ (0 ≤ (a.both (allR w g)).y ∧ (a.both (allR w g)).y + (a.both (allR w g)).h ≤ g) ∧ 0 ≤ (a.both (allR w g)).w ∧ 0 ≤ (a.both (allR w g)).h := by
  cases he : (a.both (allR w g)).empty with
  | false =>
    obtain ⟨h1, h2, h3, h4, h5⟩ := both_in he
    have : (a.both (allR w g)).right = true := (Rc.right_iff _).2 (by unfold Rc.Ok; omega)
    refine ⟨by unfold Rc.area; rw [this, he]; rfl, by omega, by omega, by omega, by omega⟩
  | true =>
    unfold Rc.area
    rw [he, Bool.or_true, if_pos rfl]
    unfold Rc.empty at he
    simp only [Bool.or_eq_true, decide_eq_true_eq] at he
    generalize hq : a.both (allR w g) = q at he ⊢
    unfold Rc.both at hq
    split at hq
    · unfold rof at hq
      split at hq
      · rw [← hq]; simp; omega
      · rw [← hq] at he; simp only at he; omega
    · rw [← hq]; simp; omega
end Go.Proofs.YtmhhjpfkipficaaDoor


end

section
/- The shallow reading of one function, and that the function does it. Written by a program. -/
set_option linter.unusedVariables false
namespace Go.Proofs.YtmhhjpfkipficaaDoor
open Go Go.HW _root_.Go.Proofs.Tryd

def grid_Grid_Fill_l2 (next : Value → Heap → Prop) (x5 x16 x32 x34 : Value) (next1 : Value → Heap → Prop) (x35 : Value) (h_7 : Heap) : Prop :=
  sLt x35 x34 fun x36 =>
  sIf x36 (sLdN h_7 x5 4 fun x40 =>
  sIxS x32 x35 4 fun x41 =>
  sStN h_7 x41 x40 4 fun h_8 => 
  sAdd .i64 x35 (.int .i64 1) fun x42 =>
  next1 x42 h_8) (sAdd .i64 x16 (.int .i64 1) fun x43 =>
  next x43 h_7)
def grid_Grid_Fill_l1 (R : Value → Heap → Prop) (x0 x4 x5 x15 : Value) (next : Value → Heap → Prop) (x16 : Value) (h_5 : Heap) : Prop :=
  sLt x16 x15 fun x17 =>
  sIf x17 (∃ C_1 : Heap → Prop, C_1 h_5 ∧ (sOff x4 1 fun x20 =>
  sLd h_5 x20 fun x21 =>
  sAdd .i64 x21 x16 fun x23 =>
  grid_Grid_row_c x0 x23 h_5 fun x24 h_6 => C_1 h_6 ∧ (
  sOff x4 0 fun x25 =>
  sLdC C_1 x25 fun x26 =>
  sOff x4 0 fun x27 =>
  sLdC C_1 x27 fun x28 =>
  sOff x4 2 fun x29 =>
  sLdC C_1 x29 fun x30 =>
  sAdd .i64 x28 x30 fun x31 =>
  sSl x24 (some x26) (some x31) 4 fun x32 =>
  sLen x32 fun x34 =>
  sLoop (S := Value) (fun nxt s h => grid_Grid_Fill_l2 next x5 x16 x32 x34 (fun x35' h => nxt x35' h) s h) (.int .i64 0) h_6))) (sLdN h_5 x4 4 fun x44 =>
  rect_Area_c x44 h_5 fun x45 h_9 => 
  R x45 h_9)
def grid_Grid_Fill_S (x0 x1 x2 : Value) (h : Heap) (R : Value → Heap → Prop) : Prop :=
  sBox h x1 83 fun x4 h => 
  sBox h x2 31 fun x5 h_1 => 
  ∃ C : Heap → Prop, C h_1 ∧ (sLdNC C x4 4 fun x10 =>
  grid_Grid_all_c x0 h_1 fun x12 h_2 => C h_2 ∧ (
  rect_Both_c x10 x12 h_2 fun x13 h_3 => 
  sStN h_3 x4 x13 4 fun h_4 => 
  sOff x4 3 fun x14 =>
  sLd h_4 x14 fun x15 =>
  sLoop (S := Value) (fun nxt s h => grid_Grid_Fill_l1 R x0 x4 x5 x15 (fun x16' h => nxt x16' h) s h) (.int .i64 0) h_4))
set_option maxRecDepth 100000 in
theorem grid_Grid_Fill_runs {x0 x1 x2 : Value} {h : Heap} {R : Value → Heap → Prop} (H : grid_Grid_Fill_S x0 x1 x2 h R) : grid_Grid_Fill_c x0 x1 x2 h R := by
 unfold grid_Grid_Fill_S at H
 refine runsof (b := (mk (Ap [x0,x1,x2] 43))) call69 func69 rfl fun w0 HA => wp_seq (lwp_list ?_)
 refine lsd 4 HA (dbox H) fun x4 h w H HA => lsd 5 HA (dbox H) fun x5 h_1 w_1 H HA_1 => lsassign (.int .i64 0) <| ls_nil (then_normal ?_)
 refine freq (mk (Ap [x0,x1,x2,ud,x4,x5,(.int .i64 0)] 39)) <| wp_seq ?_
 obtain ⟨C,HC,H⟩ := H
 refine lwpmx (Nat.testBit 28) (Nat.testBit 4) (Nat.testBit 2) [0,0,2,7,15] (Nat.testBit 0) C [0,1,2,3,4] HA_1 HC fun w_2 HA_2 => lmf 10 rfl (c_ldn isAgg83 sizeOf83 (by kernel_rfl) H) fun x10 H => lmal x0 11 rfl (almove) <| lmdc 12 rfl HA_2 (dcall H) fun x12 h_2 w_3 H HA_3 => lmd 13 rfl HA_3 (dcall H) fun x13 h_3 w_4 H HA_4 => lmdn rfl HA_4 (dstn sizeOf83 H) fun _ h_4 w_5 H HA_5 => lm_nil <| then_normal <| freq (mk (Ap [x0,x1,x2,ud,x4,x5,(.int .i64 0),ud,ud,ud,x10,x0,x12,x13] 32)) <| wp_seq <| wp_seq (lwp_list ?_)
 refine lsp 14 (poff underlying83 rfl sizeOf3 rfl H) fun x14 H => lsy 15 HA_5 (yld isAgg3 H) fun x15 H => lsmove (.int .i64 0) <| ls_nil (then_normal ?_)
 refine freq (mk (Ap [x0,x1,x2,ud,x4,x5,(.int .i64 0),ud,ud,ud,x10,x0,x12,x13,x14,x15,(.int .i64 0)] 29)) <| wp_block ?_
 obtain ⟨I,m,H0,HB⟩ := H
 refine wp_loop (fun a w => ∃ (D : Nat → Value) (x16 : Value) (h_5 : Heap),a = (mk ([x0,x1,x2,ud,x4,x5,(.int .i64 0),(D 0),(D 1),(D 2),x10,x0,x12,x13,x14,x15,x16] ++ (Ad D 3 27 [ud,ud]))) ∧ At w0 w h_5 ∧ I x16 h_5) (fun a w => m (a.tmps.getD 16 ud) w.heap) ?_ ?_
 ·exact ⟨(gd (Ap [] 30)),(.int .i64 0),h_4,by kernel_rfl,HA_5,H0⟩
 ·rintro _ w_6 ⟨D,x16,h_5,rfl,HA_6,HI⟩
  have H : grid_Grid_Fill_l1 R x0 x4 x5 x15 (fun x16' h' => I x16' h' ∧ m x16' h' < m x16 h_5) x16 h_5 := HB x16 h_5 HI
  clear HB H0 HI
  unfold grid_Grid_Fill_l1 at H
  refine wp_seq (lwp_list ?_)
  refine lsp 17 (psLt H) fun x17 H => ls_nil (then_normal ?_)
  refine freq (mk ([x0,x1,x2,ud,x4,x5,(.int .i64 0),(D 0),(D 1),(D 2),x10,x0,x12,x13,x14,x15,x16,x17] ++ (Ad D 4 26 [ud,ud]))) <| wp_seq <| wp_if rfl H (fun H => ?_) (fun H => ?_)
  ·refine wp_skip <| then_normal <| freq (mk ([x0,x1,x2,ud,x4,x5,(.int .i64 0),(D 0),(D 1),(D 2),x10,x0,x12,x13,x14,x15,x16,x17] ++ (Ad D 4 26 [ud,ud]))) <| wp_seq <| wp_block <| wp_seq (lwp_list ?_)
   refine lsmove x16 <| lsassign x16 <| ls_nil (then_normal ?_)
   refine freq (mk ([x0,x1,x2,ud,x4,x5,(.int .i64 0),x16,(D 1),(D 2),x10,x0,x12,x13,x14,x15,x16,x17,x16] ++ (Ad D 5 25 [ud,ud]))) <| wp_seq ?_
   obtain ⟨C_1,HC,H⟩ := H
   refine lwpmx (Nat.testBit 32) (Nat.testBit 32) (Nat.testBit 30043) [0,0,2,0,14,31,0,64,0,256,0,1024,3840,8191,16383] (Nat.testBit 4) C_1 [0,1,2,3,4,5,6,7,8,9,10,11,12,13,14] HA_6 HC fun w_7 HA_7 => lmal x0 19 rfl (almove) <| lmp 20 rfl (poff underlying83 rfl sizeOf3 rfl H) fun x20 H => lmb 21 rfl (yld isAgg3 H) fun x21 H => lmal x16 22 rfl (almove) <| lmp 23 rfl (padd H) fun x23 H => lmdc 24 rfl HA_7 (dcall H) fun x24 h_6 w_8 H HA_8 => lmp 25 rfl (poff underlying83 rfl sizeOf3 rfl H) fun x25 H => lmf 26 rfl (cld isAgg3 H) fun x26 H => lmp 27 rfl (poff underlying83 rfl sizeOf3 rfl H) fun x27 H => lmf 28 rfl (cld isAgg3 H) fun x28 H => lmp 29 rfl (poff underlying83 rfl sizeOf3 rfl H) fun x29 H => lmf 30 rfl (cld isAgg3 H) (fun x30 H => ?_)
   refine lmp 31 rfl (padd H) fun x31 H => lmp 32 rfl (psl underlying32 sizeOf31 H) fun x32 H => lmal x32 8 rfl (alassign) <| lm_nil <| then_normal <| freq (mk ([x0,x1,x2,ud,x4,x5,(.int .i64 0),x16,x32,(D 2),x10,x0,x12,x13,x14,x15,x16,x17,x16,x0,x20,x21,x16,x23,x24,x25,x26,x27,x28,x29,x30,x31,x32] ++ (Ad D 19 11 [ud,ud]))) <| wp_seq (lwp_list ?_)
   refine lsmove x32 <| lsp 34 (plen underlying32 H) fun x34 H => lsmove (.int .i64 0) <| ls_nil (then_normal ?_)
   refine freq (mk ([x0,x1,x2,ud,x4,x5,(.int .i64 0),x16,x32,(D 2),x10,x0,x12,x13,x14,x15,x16,x17,x16,x0,x20,x21,x16,x23,x24,x25,x26,x27,x28,x29,x30,x31,x32,x32,x34,(.int .i64 0)] ++ (Ad D 22 8 [ud,ud]))) <| wp_block ?_
   obtain ⟨I_1,m_1,H0,HB⟩ := H
   refine wp_loop (fun a w => ∃ (D_1 : Nat → Value) (x35 : Value) (h_7 : Heap),a = (mk ([x0,x1,x2,ud,x4,x5,(.int .i64 0),x16,x32,(D_1 0),x10,x0,x12,x13,x14,x15,x16,x17,x16,x0,x20,x21,x16,x23,x24,x25,x26,x27,x28,x29,x30,x31,x32,x32,x34,x35] ++ (Ad D_1 1 7 [(D 29),ud,ud]))) ∧ At w0 w h_7 ∧ I_1 x35 h_7) (fun a w => m_1 (a.tmps.getD 35 ud) w.heap) ?_ ?_
   ·exact ⟨(gd ([(D 2)] ++ (Ad D 22 7 []))),(.int .i64 0),h_6,by kernel_rfl,HA_8,H0⟩
   ·rintro _ w_9 ⟨D_1,x35,h_7,rfl,HA_9,HI⟩
    have H : grid_Grid_Fill_l2 (fun x16' h' => I x16' h' ∧ m x16' h' < m x16 h_5) x5 x16 x32 x34 (fun x35' h' => I_1 x35' h' ∧ m_1 x35' h' < m_1 x35 h_7) x35 h_7 := HB x35 h_7 HI
    clear HB H0 HI
    unfold grid_Grid_Fill_l2 at H
    refine wp_seq (lwp_list ?_)
    refine lsp 36 (psLt H) fun x36 H => ls_nil (then_normal ?_)
    refine freq (mk ([x0,x1,x2,ud,x4,x5,(.int .i64 0),x16,x32,(D_1 0),x10,x0,x12,x13,x14,x15,x16,x17,x16,x0,x20,x21,x16,x23,x24,x25,x26,x27,x28,x29,x30,x31,x32,x32,x34,x35,x36] ++ (Ad D_1 2 6 [(D 29),ud,ud]))) <| wp_seq <| wp_if rfl H (fun H => ?_) (fun H => ?_)
    ·refine wp_skip <| then_normal <| freq (mk ([x0,x1,x2,ud,x4,x5,(.int .i64 0),x16,x32,(D_1 0),x10,x0,x12,x13,x14,x15,x16,x17,x16,x0,x20,x21,x16,x23,x24,x25,x26,x27,x28,x29,x30,x31,x32,x32,x34,x35,x36] ++ (Ad D_1 2 6 [(D 29),ud,ud]))) <| wp_seq <| wp_block <| wp_seq (lwp_list ?_)
     refine lsmove x35 <| lsassign x35 <| ls_nil (then_normal ?_)
     refine freq (mk ([x0,x1,x2,ud,x4,x5,(.int .i64 0),x16,x32,x35,x10,x0,x12,x13,x14,x15,x16,x17,x16,x0,x20,x21,x16,x23,x24,x25,x26,x27,x28,x29,x30,x31,x32,x32,x34,x35,x36,x35] ++ (Ad D_1 3 5 [(D 29),ud,ud]))) <| lwp_list <| lsmove x32 <| lsmove x35 <| lsy 40 HA_9 (yldn isAgg31 sizeOf31 H) fun x40 H => lsp 41 (pixs underlying32 sizeOf31 H) fun x41 H => lsdn HA_9 (dstn sizeOf31 H) fun _ h_8 w_10 H HA_10 => ls_nil <| block_normal <| then_normal <| freq (mk [x0,x1,x2,ud,x4,x5,(.int .i64 0),x16,x32,x35,x10,x0,x12,x13,x14,x15,x16,x17,x16,x0,x20,x21,x16,x23,x24,x25,x26,x27,x28,x29,x30,x31,x32,x32,x34,x35,x36,x35,x32,x35,x40,x41,(D_1 7),(D 29),ud,ud]) <| lwp_list <| lsp 42 (padd H) fun x42 H => lsmove x42 ?_
     refine ls_nil <| ⟨⟨(gd ([x35,x36,x35,x32,x35,x40,x41,x42])),x42,h_8,by kernel_rfl,HA_10,H.1⟩, loop_lt HA_10.heap HA_9.heap (by kernel_rfl) (by kernel_rfl) H.2⟩
    ·refine wp_exit <| then_exit <| then_exit <| block_exit <| block_normal <| then_normal <| freq (mk ([x0,x1,x2,ud,x4,x5,(.int .i64 0),x16,x32,(D_1 0),x10,x0,x12,x13,x14,x15,x16,x17,x16,x0,x20,x21,x16,x23,x24,x25,x26,x27,x28,x29,x30,x31,x32,x32,x34,x35,x36] ++ (Ad D_1 2 6 [(D 29),ud,ud]))) <| lwp_list <| lsp 43 (padd H) fun x43 H => lsmove x43 <| ls_nil <| ⟨⟨(gd ([x16,x32,(D_1 0),x17,x16,x0,x20,x21,x16,x23,x24,x25,x26,x27,x28,x29,x30,x31,x32,x32,x34,x35,x36] ++ (Ad D_1 2 6 [x43]))),x43,h_7,by kernel_rfl,HA_9,H.1⟩, loop_lt HA_9.heap HA_6.heap (by kernel_rfl) (by kernel_rfl) H.2⟩
  ·refine wp_exit <| then_exit <| then_exit <| block_exit <| then_normal <| freq (mk ([x0,x1,x2,ud,x4,x5,(.int .i64 0),(D 0),(D 1),(D 2),x10,x0,x12,x13,x14,x15,x16,x17] ++ (Ad D 4 26 [ud,ud]))) <| wp_seq (lwp_list ?_)
   refine lsy 44 HA_6 (yldn isAgg83 sizeOf83 H) fun x44 H => lsd 45 HA_6 (dcall H) fun x45 h_9 w_11 H HA_11 => lsassign x45 <| ls_nil (then_normal ?_)
   refine freq (mk ([x0,x1,x2,ud,x4,x5,x45,(D 0),(D 1),(D 2),x10,x0,x12,x13,x14,x15,x16,x17] ++ (Ad D 4 26 [x44,x45]))) <| wp_ret <| end1 (results69) (by kernel_rfl) (by kernel_rfl) HA_11 H _ (.inr rfl)

end Go.Proofs.YtmhhjpfkipficaaDoor


end

section
/- Grids: rectangles filled. -/
set_option linter.unusedSimpArgs false
set_option linter.unusedVariables false
namespace Go.Proofs.YtmhhjpfkipficaaDoor
open Go Go.HW

/-- A grid's cells with a rectangle filled. -/
def fillR (l : List Ce) (w : Int) (q : Rc) (c : Ce) : List Ce := putRows l w q.x q.y (fun _ => List.replicate q.w.toNat c) q.h.toNat
theorem fillR_ok {l : List Ce} {w g : Int} {q : Rc} {c : Ce} (z : szOk w g l) : szOk w g (fillR l w q c) := put_ok z
theorem fillR_cell {l : List Ce} {w g x y : Int} {r : Rc} {c : Ce} (z : szOk w g l) : cell (fillR l w (r.both (allR w g)) c) w g x y = if (r.both (allR w g)).has x y then c else cell l w g x y := by
  have zz := z
  obtain ⟨z1, z2, z3, z4, z5⟩ := zz
  obtain ⟨_, b1, b2, b3, b4⟩ := both_area (a := r) ⟨z1, z2⟩ ⟨z3, z4⟩
  unfold fillR
  generalize r.both (allR w g) = q at b1 b2 b3 b4
  rw [cell_put z b1 b3 b2.1 (by omega) (fun k _ => by rw [List.length_replicate]; omega)]
  by_cases hc : q.has x y
  · have hc' := hc
    unfold Rc.has at hc'
    rw [if_pos hc, if_pos (by omega), getD_of, List.getElem?_replicate, if_pos (by omega)]; rfl
  · have hc' := hc
    unfold Rc.has at hc'
    rw [if_neg hc, if_neg (by omega)]
theorem setAll_snoc : ∀ (s : List Ce) (l : List Ce) (p : Nat) (c : Ce), setAll l p (s ++ [c]) = (setAll l p s).set (p + s.length) c
  | [], l, p, c => rfl
  | x :: s, l, p, c => by
    rw [List.cons_append, setAll, setAll_snoc s, setAll, List.length_cons, show p + 1 + s.length = p + (s.length + 1) by omega]
theorem both_pos {a : Rc} {w g : Int} (h : 0 < (a.both (allR w g)).h) : (a.both (allR w g)).empty = false := by
  unfold Rc.empty
  generalize hq : a.both (allR w g) = q at h ⊢
  unfold Rc.both at hq
  split at hq
  · unfold rof at hq
    split at hq
    · rw [← hq] at h; simp at h
    · rw [← hq] at h ⊢
      simp only at h ⊢
      simp only [Bool.or_eq_false_iff, decide_eq_false_iff_not]
      omega
  · rw [← hq] at h; simp at h

section
variable {h0 h : Heap} {F : List HP} {R : Value → Heap → Prop}
theorem cutP_cut2 {v : Value} {l : List Ce} {a b X Y : Nat} (q : Seq encCe 4 h v l) (h1 : a + X < b) (h2 : b ≤ l.length) : HW.cutP (HW.cutP v a b 4) X Y 4 = HW.cutP v (a + X) (a + Y) 4 := by
  obtain ⟨va, n, m, rfl, hn, hm, h3 | ⟨bb, o, rfl, hb, hc⟩⟩ := q
  · omega
  · simp only [HW.cutP, cutV]
    rw [if_neg (show ¬ m = a by omega), if_neg (show ¬ m - a = X by omega), if_neg (show ¬ m = a + X by omega)]
    simp only [Option.map_some, Addr.add]
    have e1 : Y - X = a + Y - (a + X) := by omega
    have e2 : m - a - X = m - (a + X) := by omega
    rw [e1, e2]
    congr 2
    by_cases ha : a * 4 = 0
    · have : a = 0 := by omega
      subst this
      simp
    · rw [if_neg ha]
      by_cases hX : X * 4 = 0
      · have : X = 0 := by omega
        subst this
        rw [if_pos (by omega), if_neg (by omega)]; rfl
      · rw [if_neg hX, if_neg (by omega)]
        simp only [Addr.mk.injEq, and_true, true_and]
        omega
theorem fill_spec {kg : Nat} {w g : Int} {v : Value} {l : List Ce} {r : Rc} {c : Ce} (z : szOk w g l)
    (s : HW.Sep h0 (Blk kg (grd w g v) 89 :: Sl encCe 4 v l :: F) h)
    (H : ∀ h', HW.Sep h0 (Blk kg (grd w g v) 89 :: Sl encCe 4 v (fillR l w (r.both (allR w g)) c) :: F) h' → R (.int .i64 (r.both (allR w g)).area) h') :
    grid_Grid_Fill_c (ptr kg 0) r.v (.agg c.a) h R := by
  apply grid_Grid_Fill_runs
  unfold grid_Grid_Fill_S
  refine s.box (c := r.c) r.cells (fun k4 h1 s1 => ?_)
  refine s1.box (c := c.a) rfl (fun k5 h2 s2 => ?_)
  have b4 : h2.has k4 r.c 83 := s2.b1.has
  refine ⟨fun h' => h'.has k4 r.c 83, b4, ?_⟩
  have cA : ∀ {K : Value → Prop}, sLdNC (fun h' => h'.has k4 r.c 83) (ptr k4 0) 4 K = K r.v := fun {K} => ldnc_all (C := fun h' => h'.has k4 r.c 83) (h0 := h2) b4 rfl (fun _ e => e)
  rw [cA]
  refine all_spec s2.b2 (fun h3 e3 => ⟨e3.has b4, ?_⟩)
  refine rboth_spec (a := r) (b := allR w g) (fun h4 e4 => ?_)
  have zz := z
  obtain ⟨z1, z2, z3, z4, z5⟩ := zz
  obtain ⟨_, b1, b2, b3, b4⟩ := both_area (a := r) ⟨z1, z2⟩ ⟨z3, z4⟩
  have hpos := both_pos (a := r) (w := w) (g := g)
  unfold fillR at H
  generalize r.both (allR w g) = q at b1 b2 b3 b4 H hpos
  refine ((s2.ext' e3).ext' e4).b1.stall (cs := q.c) rfl rfl (Rc.cell1 _) (fun h5 s5 => ?_)
  have f3 : ∀ {K : Value → Prop}, sLd h5 (ptr k4 3) K = K (.int .i64 q.h) := s5.ld rfl
  rw [ev_off, Nat.zero_add, f3]
  generalize hrw : (fun _ : Nat => List.replicate q.w.toNat c) = rw_ at H
  refine ⟨fun t h' => ∃ i : Nat, (i : Int) ≤ q.h ∧ t = .int .i64 i ∧ HW.Sep h0 (Blk k4 q.c 83 :: Blk k5 c.a 31 :: Blk kg (grd w g v) 89 :: Sl encCe 4 v (putRows l w q.x q.y rw_ i) :: F) h', fun t _ => match t with | .int _ k => (q.h - k).toNat | _ => 0, ⟨0, by omega, rfl, s5⟩, ?_⟩
  rintro _ h6 ⟨i, hi, rfl, s6⟩
  simp only []
  unfold grid_Grid_Fill_l1
  rw [ev_lt, ev_if]
  by_cases hlt : (i : Int) < q.h
  · rw [if_pos (decide_eq_true hlt)]
    have hw : 1 ≤ q.w := by
      have := hpos (by omega)
      unfold Rc.empty at this
      simp only [Bool.or_eq_false_iff, decide_eq_false_iff_not] at this
      omega
    have b4' : h6.has k4 q.c 83 := s6.has
    refine ⟨fun h' => h'.has k4 q.c 83, b4', ?_⟩
    have f1 : ∀ {K : Value → Prop}, sLd h6 (ptr k4 1) K = K (.int .i64 q.y) := s6.ld rfl
    have c4 : ∀ {o : Nat} {u : Value} {K : Value → Prop}, q.c[o]? = some u → sLdC (fun h' => h'.has k4 q.c 83) (ptr k4 o) K = K u := fun hv => ldc_at (C := fun h' => h'.has k4 q.c 83) (h0 := h6) b4' (fun h' e => by rw [e.at, hv])
    rw [ev_off, Nat.zero_add, f1, ev_add, wrap_i64 (by omega) (by omega)]
    have hyk : 0 ≤ q.y + i ∧ q.y + i < g := by omega
    have zk : szOk w g (putRows l w q.x q.y rw_ i) := put_ok z
    refine row_spec (s6.tail2) zk hyk ⟨b4', ?_⟩
    simp only [ev_off]
    rw [c4 (o := 0) (u := .int .i64 q.x) rfl, c4 (o := 0) (u := .int .i64 q.x) rfl, c4 (o := 2) (u := .int .i64 q.w) rfl, ev_add, wrap_i64 (x := q.x + q.w) (by omega) (by omega)]
    have m := sz_mul ⟨z1, z2⟩ z4 hyk
    rw [Int.mul_comm w g] at z5
    obtain ⟨a, ha⟩ : ∃ a : Nat, (q.y + i) * w = a := ⟨((q.y + i) * w).toNat, by omega⟩
    obtain ⟨b, hb⟩ : ∃ b : Nat, (q.y + i + 1) * w = b := ⟨((q.y + i + 1) * w).toNat, by omega⟩
    obtain ⟨X, hX⟩ : ∃ X : Nat, q.x = X := ⟨q.x.toNat, by omega⟩
    obtain ⟨W, hW⟩ : ∃ W : Nat, q.w = W := ⟨q.w.toNat, by omega⟩
    have hlk : (putRows l w q.x q.y rw_ i).length = l.length := putRows_len _ _ _ _ _ _
    rw [ha, hb, Int.toNat_natCast, Int.toNat_natCast, show q.x + q.w = ((X + W : Nat) : Int) by omega, hX]
    have qv := s6.b3.seq
    have qc := qv.cutP (i := a) (j := b) (by omega) (by omega)
    refine qc.slK (i := X) (j := X + W) (by omega) (by simp only [List.length_drop, List.length_take]; omega) ⟨.i64, rfl⟩ ⟨.i64, rfl⟩ ?_
    rw [cutP_cut2 qv (by omega) (by omega)]
    have qd := qv.cutP (i := a + X) (j := a + (X + W)) (by omega) (by omega)
    rw [qd.len, show ((putRows l w q.x q.y rw_ i).take (a + (X + W)) |>.drop (a + X)).length = W by simp only [List.length_drop, List.length_take]; omega]
    refine ⟨fun t h' => ∃ j : Nat, j ≤ W ∧ t = .int .i64 j ∧ HW.Sep h0 (Blk k4 q.c 83 :: Blk k5 c.a 31 :: Blk kg (grd w g v) 89 :: Sl encCe 4 v (setAll (putRows l w q.x q.y rw_ i) (a + X) (List.replicate j c)) :: F) h', fun t _ => match t with | .int _ k => (W - k).toNat | _ => 0, ⟨0, Nat.zero_le _, rfl, s6⟩, ?_⟩
    rintro _ h7 ⟨j, hj, rfl, s7⟩
    simp only []
    unfold grid_Grid_Fill_l2
    rw [ev_lt, ev_if]
    by_cases hjt : j < W
    · rw [if_pos (by simpa using hjt), s7.b1.ldall (n := 4) rfl]
      have ql : Seq encCe 4 h7 v (setAll (putRows l w q.x q.y rw_ i) (a + X) (List.replicate j c)) := s7.b3.seq
      have qe := ql.cutP (i := a + X) (j := a + (X + W)) (by omega) (by rw [setAll_len]; omega)
      rw [qe.elt (by rw [List.length_drop, List.length_take, setAll_len]; omega), eltP_cut ql (by omega) (by rw [setAll_len]; omega)]
      refine s7.b3.setn encCe_len encCe_cell (by rw [setAll_len]; omega) c (fun h8 s8 => ?_)
      rw [ev_add, wrap_i64 (by omega) (by omega)]
      refine ⟨⟨j + 1, hjt, by rw [Int.natCast_add]; rfl, ?_⟩, by simp only; omega⟩
      rw [List.replicate_succ', setAll_snoc, List.length_replicate]
      exact s8.p3
    · have : j = W := by omega
      subst this
      rw [if_neg (by simp), ev_add, wrap_i64 (by omega) (by omega)]
      refine ⟨⟨i + 1, by omega, by rw [Int.natCast_add]; rfl, ?_⟩, by simp only; omega⟩
      have e : putRows l w q.x q.y rw_ (i + 1) = setAll (putRows l w q.x q.y rw_ i) (a + X) (List.replicate j c) := by
        rw [putRows, ha, hX, ← hrw, hW]
        congr 1
      rw [← hX, e]
      exact s7
  · rw [if_neg (by simpa using hlt), s6.ldall (n := 4) rfl]
    refine rarea_spec (r := q) (fun h7 e7 => H h7 ?_)
    rw [show q.h.toNat = i by omega]
    exact (s6.ext' e7).tail2
end
end Go.Proofs.YtmhhjpfkipficaaDoor


end

section
/- Grids: what cells a grid has behind a copy. -/
set_option linter.unusedSimpArgs false
set_option linter.unusedVariables false
namespace Go.Proofs.YtmhhjpfkipficaaDoor
open Go Go.HW

theorem srow_cell {l : List Ce} {w g x0 y0 n j : Int} {k : Nat} (z : szOk w g l) (hx : 0 ≤ x0 ∧ x0 + n ≤ w) (hy : 0 ≤ y0 + k ∧ y0 + k < g) (hj : 0 ≤ j ∧ j < n) : (srow l w x0 y0 n k).getD j.toNat ce0 = cell l w g (x0 + j) (y0 + k) := by
  have zz := z
  obtain ⟨z1, z2, z3, z4, z5⟩ := zz
  have m := sz_mul ⟨z1, z2⟩ z4 hy
  rw [Int.mul_comm w g] at z5
  unfold cell srow
  rw [if_pos (inG_iff.2 (by omega)), getD_of, getD_of, List.getElem?_drop, List.getElem?_take_of_lt (by omega), List.getElem?_drop, List.getElem?_take_of_lt (by omega)]
  congr 2
  omega
/-- What cells a grid has behind a copy. -/
theorem copy_cell {l l' : List Ce} {r : Rc} {w g x y w' g' a b : Int} (z : szOk w g l) (z' : szOk w' g' l') (he : (itR r w g x y w' g').empty = false) :
    cell (putRows l' w' (itR r w g x y w' g').x (itR r w g x y w' g').y (srow l w ((itR r w g x y w' g').x - x + r.x) ((itR r w g x y w' g').y - y + r.y) (itR r w g x y w' g').w) (itR r w g x y w' g').h.toNat) w' g' a b = if (itR r w g x y w' g').has a b then cell l w g (a - x + r.x) (b - y + r.y) else cell l' w' g' a b := by
  obtain ⟨g1, g2, g3, g4, g5, g6⟩ := geo he
  generalize itR r w g x y w' g' = it at g1 g2 g3 g4 g5 g6
  rw [cell_put z' (m := it.w) g3 (by omega) g4.1 (by omega) (fun k hk => by rw [srow_len z g1 g5 (by omega)]; omega)]
  by_cases hh : it.has a b
  · have h2 := hh
    unfold Rc.has at h2
    rw [if_pos hh, if_pos (by omega), srow_cell z g1 (by omega) (by omega)]
    congr 1 <;> omega
  · have h2 := hh
    unfold Rc.has at h2
    rw [if_neg hh, if_neg (by omega)]

end Go.Proofs.YtmhhjpfkipficaaDoor


end
