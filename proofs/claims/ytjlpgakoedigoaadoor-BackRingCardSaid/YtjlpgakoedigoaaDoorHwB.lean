import Derived.Test.YtjlpgakoedigoaaDoorHwA
import Derived.DeepKeys
import Derived.KernelRfl
import Derived.Below
import Derived.OpenShut
import Derived.Deep.Slices
import Derived.Lib.SmallJoins
import Derived.DataReads
import Derived.Lib.SlBytesConst
import Derived.WideShapes
set_option linter.unusedVariables false
section
/- Equality of structs and arrays of numbers and bools: helpers. -/
namespace Go.HW
open Go
theorem okC_i {k : IntKind} {ks : List (Option IntKind)} {l : List Value} (h : okC (some k :: ks) l) : ∃ a r, l = .int k a :: r ∧ okC ks r := by
  match l, h with
  | .int k' a :: r, h => exact ⟨a, r, by rw [h.1], h.2⟩
theorem okC_b {ks : List (Option IntKind)} {l : List Value} (h : okC (none :: ks) l) : ∃ a r, l = .bool a :: r ∧ okC ks r := by
  match l, h with
  | .bool a :: r, h => exact ⟨a, r, rfl, h⟩
theorem okC_n {l : List Value} (h : okC [] l) : l = [] := by
  match l, h with
  | [], _ => rfl
theorem ite_ok {a b : Int} {y : Bool} {w : World} : (if a = b then Result.ok y w else Result.ok false w) = Result.ok (a == b && y) w := by
  by_cases h : a = b <;> simp [h]
theorem ite_okb {a b y : Bool} {w : World} : (if a = b then Result.ok y w else Result.ok false w) = Result.ok (a == b && y) w := by
  by_cases h : a = b <;> simp [h]
theorem ite_ok2 {b y : Bool} {w : World} : (if b = false then Result.ok false w else Result.ok y w) = Result.ok (b && y) w := by
  cases b <;> rfl
end Go.HW

end

section
/- What the words come to, on values that are known. -/
namespace Go.HW
open Go

section
variable {K : Value → Prop} {KH : Value → Heap → Prop} {h : Heap} {b o n : Nat}
@[simp] theorem ev_nil : sNil (ptr b o) K = K (ptr b o) := propext ⟨fun x => x.2, fun x => ⟨⟨b, o, rfl⟩, x⟩⟩
@[simp] theorem ev_off : sOff (ptr b o) n K = K (ptr b (o + n)) :=
  propext ⟨fun ⟨b', o', e, x⟩ => by cases e; exact x, fun x => ⟨b, o, rfl, x⟩⟩
@[simp] theorem ev_ld : sLd h (ptr b o) K = (match h.at b o with | some v => K v | none => False) := by
  cases e : h.at b o with
  | none => exact propext ⟨fun ⟨b', o', v, e1, e2, _⟩ => (by cases e1; rw [e] at e2; cases e2), fun x => x.elim⟩
  | some u => exact propext ⟨fun ⟨b', o', v, e1, e2, x⟩ => by cases e1; rw [e] at e2; cases e2; exact x, fun x => ⟨b, o, u, rfl, e, x⟩⟩
theorem ev_st {v : Value} {K : Heap → Prop} (h1 : (h.at b o).isSome = true) (h2 : h.cold b o = true) (h3 : Cell1 v) : sSt h (ptr b o) v K = K (h.put b o v) :=
  propext ⟨fun ⟨b', o', e, _, _, _, x⟩ => by cases e; exact x, fun x => ⟨b, o, rfl, h1, h2, h3, x⟩⟩
@[simp] theorem ev_cmp {f : Int → Int → Bool} {k : IntKind} {x y : Int} : sCmp f (.int k x) (.int k y) K = K (.bool (f x y)) :=
  propext ⟨fun ⟨k', a, b, e1, e2, x⟩ => by cases e1; cases e2; exact x, fun x => ⟨k, _, _, rfl, rfl, x⟩⟩
@[simp] theorem ev_lt {k : IntKind} {x y : Int} : sLt (.int k x) (.int k y) K = K (.bool (decide (x < y))) := ev_cmp
@[simp] theorem ev_le {k : IntKind} {x y : Int} : sLe (.int k x) (.int k y) K = K (.bool (decide (x ≤ y))) := ev_cmp
@[simp] theorem ev_gt {k : IntKind} {x y : Int} : sGt (.int k x) (.int k y) K = K (.bool (decide (y < x))) := ev_cmp
@[simp] theorem ev_ge {k : IntKind} {x y : Int} : sGe (.int k x) (.int k y) K = K (.bool (decide (y ≤ x))) := ev_cmp
@[simp] theorem ev_eq {k : IntKind} {x y : Int} : sEq (.int k x) (.int k y) K = K (.bool (x == y)) := ev_cmp
@[simp] theorem ev_ne {k : IntKind} {x y : Int} : sNe (.int k x) (.int k y) K = K (.bool (x != y)) := ev_cmp
@[simp] theorem ev_ar {f : Int → Int → Int} {k : IntKind} {x y : Int} : sAr f k (.int k x) (.int k y) K = K (.int k (k.wrap (f x y))) :=
  propext ⟨fun ⟨a, b, e1, e2, x⟩ => by cases e1; cases e2; exact x, fun x => ⟨_, _, rfl, rfl, x⟩⟩
@[simp] theorem ev_add {k : IntKind} {x y : Int} : sAdd k (.int k x) (.int k y) K = K (.int k (k.wrap (x + y))) := ev_ar
@[simp] theorem ev_sub {k : IntKind} {x y : Int} : sSub k (.int k x) (.int k y) K = K (.int k (k.wrap (x - y))) := ev_ar
@[simp] theorem ev_mul {k : IntKind} {x y : Int} : sMul k (.int k x) (.int k y) K = K (.int k (k.wrap (x * y))) := ev_ar
theorem ev_quo {k : IntKind} {x y : Int} (h0 : y ≠ 0) : sQuo k (.int k x) (.int k y) K = K (.int k (k.wrap (x.tdiv y))) :=
  propext ⟨fun ⟨a, b, e1, e2, _, x⟩ => by cases e1; cases e2; exact x, fun x => ⟨_, _, rfl, rfl, h0, x⟩⟩
theorem ev_rem {k : IntKind} {x y : Int} (h0 : y ≠ 0) : sRem k (.int k x) (.int k y) K = K (.int k (x.tmod y)) :=
  propext ⟨fun ⟨a, b, e1, e2, _, x⟩ => by cases e1; cases e2; exact x, fun x => ⟨_, _, rfl, rfl, h0, x⟩⟩
@[simp] theorem ev_bits {op : BinOp} {k : IntKind} {x y : Int} : sBits op k (.int k x) (.int k y) K = K (.int k (bitsOf op k x y)) :=
  propext ⟨fun ⟨a, b, e1, e2, x⟩ => by cases e1; cases e2; exact x, fun x => ⟨_, _, rfl, rfl, x⟩⟩
@[simp] theorem ev_conv {k j : IntKind} {x : Int} : sConv k (.int j x) K = K (.int k (k.wrap x)) :=
  propext ⟨fun ⟨a, b, e1, x⟩ => by cases e1; exact x, fun x => ⟨_, _, rfl, x⟩⟩
@[simp] theorem ev_neg {k : IntKind} {x : Int} : sNeg k (.int k x) K = K (.int k (k.wrap (0 - x))) :=
  propext ⟨fun ⟨a, e1, x⟩ => by cases e1; exact x, fun x => ⟨_, rfl, x⟩⟩
@[simp] theorem ev_min {k : IntKind} {x y : Int} : sMin (.int k x) (.int k y) K = K (.int k (if y < x then y else x)) :=
  propext ⟨fun ⟨k', a, b, e1, e2, x⟩ => by cases e1; cases e2; exact x, fun x => ⟨_, _, _, rfl, rfl, x⟩⟩
@[simp] theorem ev_max {k : IntKind} {x y : Int} : sMax (.int k x) (.int k y) K = K (.int k (if x < y then y else x)) :=
  propext ⟨fun ⟨k', a, b, e1, e2, x⟩ => by cases e1; cases e2; exact x, fun x => ⟨_, _, _, rfl, rfl, x⟩⟩
@[simp] theorem ev_not {x : Bool} : sNot (.bool x) K = K (.bool !x) :=
  propext ⟨fun ⟨a, e1, x⟩ => by cases e1; exact x, fun x => ⟨_, rfl, x⟩⟩
@[simp] theorem ev_if {x : Bool} {A B : Prop} : sIf (.bool x) A B = (if x = true then A else B) := by
  cases x
  · exact propext ⟨fun ⟨_, e, _, f⟩ => by cases e; exact f rfl, fun f => ⟨false, rfl, fun e => by (cases e), fun _ => f⟩⟩
  · exact propext ⟨fun ⟨_, e, f, _⟩ => by cases e; exact f rfl, fun f => ⟨true, rfl, fun _ => f, fun e => by cases e⟩⟩
@[simp] theorem ev_eqlB {x y : Bool} : sEqlB (.bool x) (.bool y) K = K (.bool (x == y)) :=
  propext ⟨fun ⟨a, b, e1, e2, x⟩ => by cases e1; cases e2; exact x, fun x => ⟨_, _, rfl, rfl, x⟩⟩
@[simp] theorem ev_neqB {x y : Bool} : sNeqB (.bool x) (.bool y) K = K (.bool (!(x == y))) :=
  propext ⟨fun ⟨a, b, e1, e2, x⟩ => by cases e1; cases e2; exact x, fun x => ⟨_, _, rfl, rfl, x⟩⟩
@[simp] theorem ev_eqlNil {x : Option Addr} : sEqlNil (.pointer x) K = K (.bool x.isNone) :=
  propext ⟨fun ⟨a, e1, x⟩ => by cases e1; exact x, fun x => ⟨_, rfl, x⟩⟩
@[simp] theorem ev_neqNil {x : Option Addr} : sNeqNil (.pointer x) K = K (.bool (!x.isNone)) :=
  propext ⟨fun ⟨a, e1, x⟩ => by cases e1; exact x, fun x => ⟨_, rfl, x⟩⟩
@[simp] theorem ev_eqlNilS {x : Option Addr} {m c : Nat} : sEqlNilS (.slice x m c) K = K (.bool x.isNone) :=
  propext ⟨fun ⟨_, _, _, e1, x⟩ => by cases e1; exact x, fun x => ⟨_, _, _, rfl, x⟩⟩
@[simp] theorem ev_neqNilS {x : Option Addr} {m c : Nat} : sNeqNilS (.slice x m c) K = K (.bool (!x.isNone)) :=
  propext ⟨fun ⟨_, _, _, e1, x⟩ => by cases e1; exact x, fun x => ⟨_, _, _, rfl, x⟩⟩
@[simp] theorem ev_len {x : Option Addr} {m c : Nat} : sLen (.slice x m c) K = K (.int .i64 m) :=
  propext ⟨fun ⟨_, _, _, e1, x⟩ => by cases e1; exact x, fun x => ⟨_, _, _, rfl, x⟩⟩
@[simp] theorem ev_lenb {s : ByteArray} : sLenB (.string s) K = K (.int .i64 s.size) :=
  propext ⟨fun ⟨_, e1, x⟩ => by cases e1; exact x, fun x => ⟨_, rfl, x⟩⟩
@[simp] theorem ev_tup {vs : Array Value} {i : Nat} : sTup (.tuple vs) i K = (match vs[i]? with | some v => K v | none => False) := by
  cases e : vs[i]? with
  | none => exact propext ⟨fun ⟨vs', v, e1, e2, _⟩ => (by cases e1; rw [e] at e2; cases e2), fun x => x.elim⟩
  | some u => exact propext ⟨fun ⟨vs', v, e1, e2, x⟩ => by cases e1; rw [e] at e2; cases e2; exact x, fun x => ⟨vs, u, rfl, e, x⟩⟩
@[simp] theorem ev_fld {vs : Array Value} {i : Nat} : sFld (.agg vs) i K = (match vs[i]? with | some v => K v | none => False) := by
  cases e : vs[i]? with
  | none => exact propext ⟨fun ⟨vs', v, e1, e2, _⟩ => (by cases e1; rw [e] at e2; cases e2), fun x => x.elim⟩
  | some u => exact propext ⟨fun ⟨vs', v, e1, e2, x⟩ => by cases e1; rw [e] at e2; cases e2; exact x, fun x => ⟨vs, u, rfl, e, x⟩⟩
@[simp] theorem ev_fldn {vs : Array Value} {i m : Nat} : sFldN (.agg vs) i m K = K (.agg (vs.extract i (i + m))) :=
  propext ⟨fun ⟨_, e1, x⟩ => by cases e1; exact x, fun x => ⟨_, rfl, x⟩⟩
@[simp] theorem ev_and {x : Bool} {M : (Value → Prop) → Prop} : sAnd (.bool x) M K = (if x = true then M K else K (.bool false)) := by
  cases x
  · exact propext ⟨fun ⟨_, e, _, f⟩ => by cases e; exact f rfl, fun f => ⟨false, rfl, fun e => by (cases e), fun _ => f⟩⟩
  · exact propext ⟨fun ⟨_, e, f, _⟩ => by cases e; exact f rfl, fun f => ⟨true, rfl, fun _ => f, fun e => by cases e⟩⟩
@[simp] theorem ev_or {x : Bool} {M : (Value → Prop) → Prop} : sOr (.bool x) M K = (if x = true then K (.bool true) else M K) := by
  cases x
  · exact propext ⟨fun ⟨_, e, f, _⟩ => by cases e; exact f rfl, fun f => ⟨false, rfl, fun _ => f, fun e => by cases e⟩⟩
  · exact propext ⟨fun ⟨_, e, _, f⟩ => by cases e; exact f rfl, fun f => ⟨true, rfl, fun e => by (cases e), fun _ => f⟩⟩
@[simp] theorem ev_andh {x : Bool} {M : (Value → Heap → Prop) → Prop} : sAndH (.bool x) h M KH = (if x = true then M KH else KH (.bool false) h) := by
  cases x
  · exact propext ⟨fun ⟨_, e, _, f⟩ => by cases e; exact f rfl, fun f => ⟨false, rfl, fun e => by (cases e), fun _ => f⟩⟩
  · exact propext ⟨fun ⟨_, e, f, _⟩ => by cases e; exact f rfl, fun f => ⟨true, rfl, fun _ => f, fun e => by cases e⟩⟩
@[simp] theorem ev_orh {x : Bool} {M : (Value → Heap → Prop) → Prop} : sOrH (.bool x) h M KH = (if x = true then KH (.bool true) h else M KH) := by
  cases x
  · exact propext ⟨fun ⟨_, e, f, _⟩ => by cases e; exact f rfl, fun f => ⟨false, rfl, fun _ => f, fun e => by cases e⟩⟩
  · exact propext ⟨fun ⟨_, e, _, f⟩ => by cases e; exact f rfl, fun f => ⟨true, rfl, fun e => by (cases e), fun _ => f⟩⟩
/-- Both sides of a guarded group end alike: one Bool. -/
@[simp] theorem if_same {x y : Bool} : (if x = true then K (.bool y) else K (.bool false)) = K (.bool (x && y)) := by cases x <;> simp
@[simp] theorem if_same' {x y : Bool} : (if x = true then K (.bool true) else K (.bool y)) = K (.bool (x || y)) := by cases x <;> simp
@[simp] theorem ev_new {z : Array Value} {t : TypeId} : sNew h z t KH = KH (ptr h.size 0) (h.push (.cells z t)) := rfl
@[simp] theorem ev_box {x : Value} {t : TypeId} : sBox h x t KH = KH (ptr h.size 0) (h.push (.cells x.cells t)) := rfl
@[simp] theorem ev_eqlAgg {xs ys : Array Value} {ks : List (Option IntKind)} (h1 : okC ks xs.toList) (h2 : okC ks ys.toList) : sEqlAgg (.agg xs) (.agg ys) ks K = K (.bool (eqVs xs.toList ys.toList)) :=
  propext ⟨fun ⟨_, _, e1, e2, _, _, x⟩ => by cases e1; cases e2; exact x, fun x => ⟨_, _, rfl, rfl, h1, h2, x⟩⟩
@[simp] theorem ev_neqAgg {xs ys : Array Value} {ks : List (Option IntKind)} (h1 : okC ks xs.toList) (h2 : okC ks ys.toList) : sNeqAgg (.agg xs) (.agg ys) ks K = K (.bool (!eqVs xs.toList ys.toList)) :=
  propext ⟨fun ⟨_, _, e1, e2, _, _, x⟩ => by cases e1; cases e2; exact x, fun x => ⟨_, _, rfl, rfl, h1, h2, x⟩⟩
theorem ev_ixs {b o m c : Nat} {k : IntKind} {j : Int} {sz : Nat} (h0 : 0 ≤ j) (h1 : j < m) : sIxS (.slice (some ⟨b, o, none⟩) m c) (.int k j) sz K = K (ptr b (o + j.toNat * sz)) :=
  propext ⟨fun ⟨_, _, _, _, _, _, e1, e2, _, _, x⟩ => by cases e1; cases e2; exact x, fun x => ⟨_, _, _, _, _, _, rfl, rfl, h0, h1, x⟩⟩
end

/-! ### Blocks -/
/-- Block b holds these cells. -/
def Heap.has (h : Heap) (b : Nat) (c : Array Value) (t : TypeId) : Prop := h[b]? = some (.cells c t (0, 0))
def Heap.upd (h : Heap) (b : Nat) (c : Array Value) (t : TypeId) : Heap := h.setIfInBounds b (.cells c t (0, 0))

section
variable {h : Heap} {b o t : Nat} {c : Array Value}
theorem Heap.has.lt (hb : h.has b c t) : b < h.size := (Array.getElem?_eq_some_iff.1 hb).1
theorem Heap.has.at (hb : h.has b c t) (o : Nat) : h.at b o = c[o]? := by unfold Heap.at; rw [show h[b]? = _ from hb]
theorem Heap.has.cold (hb : h.has b c t) (o : Nat) : h.cold b o = true := by unfold Heap.cold; rw [show h[b]? = _ from hb]; simp
theorem Heap.has.put (hb : h.has b c t) (o : Nat) (v : Value) : h.put b o v = h.upd b (c.setIfInBounds o v) t := by
  unfold Heap.put Heap.upd
  apply Array.ext_getElem?
  intro i
  rw [Array.getElem?_modify, Array.getElem?_setIfInBounds]
  by_cases e : b = i
  · subst e
    rw [if_pos rfl, if_pos rfl, if_pos hb.lt, show h[b]? = _ from hb]
    rfl
  · rw [if_neg e, if_neg e]
theorem Heap.has_upd (hb : b < h.size) (c : Array Value) (t : TypeId) : (h.upd b c t).has b c t := by
  unfold Heap.has Heap.upd; simp [hb]
theorem Heap.has_upd_ne {b' : Nat} {c' : Array Value} {t' : TypeId} (hb : h.has b c t) (hne : b' ≠ b) : (h.upd b' c' t').has b c t := by
  unfold Heap.has Heap.upd; rw [Array.getElem?_setIfInBounds_ne hne]; exact hb
@[simp] theorem Heap.upd_upd (c' : Array Value) (t' : TypeId) : (h.upd b c t).upd b c' t' = h.upd b c' t' := by
  unfold Heap.upd; simp
@[simp] theorem Heap.size_upd : (h.upd b c t).size = h.size := by unfold Heap.upd; simp
theorem Heap.has_push (x : Obj) (hb : h.has b c t) : Heap.has (h.push x) b c t := by
  unfold Heap.has at *
  have := (Array.getElem?_eq_some_iff.1 hb).1
  rw [Array.getElem?_push, if_neg (by omega)]; exact hb
theorem Heap.has_new (c : Array Value) (t : TypeId) : Heap.has (h.push (.cells c t)) h.size c t := by
  unfold Heap.has; simp
theorem ev_st_has {v : Value} {K : Heap → Prop} (hb : h.has b c t) (ho : o < c.size) (h3 : Cell1 v) : sSt h (ptr b o) v K = K (h.upd b (c.setIfInBounds o v) t) := by
  rw [ev_st (by rw [hb.at]; simp [ho]) (hb.cold o) h3, hb.put]
end
end Go.HW

end

section
/- Heaps that grew, and rows of numbers that were there before. -/
namespace Go.HW
open Go

section
variable {K : Value → Prop} {KH : Value → Heap → Prop} {h : Heap} {x y : Bool}
/-! A guarded group that has no effect: one Bool. -/
theorem ev_and_p : sAnd (.bool x) (fun k => k (.bool y)) K = K (.bool (x && y)) := by rw [ev_and]; cases x <;> simp
theorem ev_or_p : sOr (.bool x) (fun k => k (.bool y)) K = K (.bool (x || y)) := by rw [ev_or]; cases x <;> simp
theorem ev_andh_p : sAndH (.bool x) h (fun k => k (.bool y) h) KH = KH (.bool (x && y)) h := by rw [ev_andh]; cases x <;> simp
theorem ev_orh_p : sOrH (.bool x) h (fun k => k (.bool y) h) KH = KH (.bool (x || y)) h := by rw [ev_orh]; cases x <;> simp
end

/-- Old blocks are as they were. -/
structure Ext (h h' : Heap) : Prop where
  size : h.size ≤ h'.size
  same : ∀ i, i < h.size → h'[i]? = h[i]?

section
variable {h h' h'' : Heap} {b o t : Nat} {c : Array Value} {x : Obj} {v : Value}
theorem Ext.refl (h : Heap) : Ext h h := ⟨Nat.le_refl _, fun _ _ => rfl⟩
theorem Ext.trans (a : Ext h h') (b : Ext h' h'') : Ext h h'' := ⟨Nat.le_trans a.size b.size, fun i hi => (b.same i (Nat.lt_of_lt_of_le hi a.size)).trans (a.same i hi)⟩
theorem Ext.push (a : Ext h h') : Ext h (h'.push x) := by
  refine ⟨?_, fun i hi => ?_⟩
  · have := a.size; rw [Array.size_push]; omega
  · have := a.size
    rw [Array.getElem?_push, if_neg (by omega)]; exact a.same i hi
theorem Ext.upd (a : Ext h h') (hb : h.size ≤ b) : Ext h (h'.upd b c t) := by
  refine ⟨by rw [Heap.size_upd]; exact a.size, fun i hi => ?_⟩
  unfold Heap.upd
  rw [Array.getElem?_setIfInBounds_ne (by omega)]; exact a.same i hi
theorem Ext.put (a : Ext h h') (hb : h.size ≤ b) : Ext h (h'.put b o v) := by
  refine ⟨by unfold Heap.put; rw [Array.size_modify]; exact a.size, fun i hi => ?_⟩
  unfold Heap.put
  rw [Array.getElem?_modify, if_neg (by omega)]; exact a.same i hi
theorem Ext.at (a : Ext h h') (hb : b < h.size) : h'.at b o = h.at b o := by unfold Heap.at; rw [a.same b hb]
theorem Ext.has (a : Ext h h') (hb : h.has b c t) : h'.has b c t := by unfold Heap.has; rw [a.same b hb.lt]; exact hb
end

/-- The slice v bears these numbers. -/
def Nums (k : IntKind) (h : Heap) (v : Value) (z : List Int) : Prop :=
  ∃ a n m, v = .slice a n m ∧ z.length = n ∧ n ≤ m ∧ (n = 0 ∨ ∃ b o, a = some ⟨b, o, none⟩ ∧ b < h.size ∧ ∀ i, i < n → h.at b (o + i) = some (.int k (z.getD i 0)))

section
variable {h h' : Heap} {k : IntKind} {v : Value} {z : List Int} {K : Value → Prop}
theorem Nums.ext (a : Nums k h v z) (e : Ext h h') : Nums k h' v z := by
  obtain ⟨a, n, m, rfl, hn, hm, h0 | ⟨b, o, rfl, hb, hc⟩⟩ := a
  · exact ⟨_, _, _, rfl, hn, hm, .inl h0⟩
  · exact ⟨_, _, _, rfl, hn, hm, .inr ⟨b, o, rfl, Nat.lt_of_lt_of_le hb e.size, fun i hi => (e.at hb).trans (hc i hi)⟩⟩
theorem Nums.len (a : Nums k h v z) : sLen v K = K (.int .i64 z.length) := by
  obtain ⟨a, n, m, rfl, hn, _, _⟩ := a
  rw [ev_len, hn]
theorem Nums.get (a : Nums k h v z) {j : Int} {q : IntKind} (h0 : 0 ≤ j) (h1 : j < z.length) : sIxS v (.int q j) 1 (fun p => sLd h p K) = K (.int k (z.getD j.toNat 0)) := by
  obtain ⟨a, n, m, rfl, hn, hm, h2 | ⟨b, o, rfl, hb, hc⟩⟩ := a
  · omega
  · rw [ev_ixs h0 (by omega), ev_ld, Nat.mul_one, hc _ (by omega)]
end

theorem wrap_s {k : IntKind} {x : Int} (n : Nat) (hk : k.bits = n + 1) (hs : k.signed = true) (h0 : -(2 ^ n : Int) ≤ x) (h1 : x < (2 ^ n : Int)) : k.wrap x = x := by
  have e : (2 : Int) ^ (n + 1) = 2 * 2 ^ n := by rw [Int.pow_succ]; omega
  unfold IntKind.wrap
  rw [hk, hs, e, Nat.add_sub_cancel]
  generalize (2 : Int) ^ n = m at *
  simp only [Bool.true_and, decide_eq_true_eq, ge_iff_le]
  by_cases hx : 0 ≤ x
  · rw [Int.emod_eq_of_lt hx (by omega), if_neg (by omega)]
  · have : x % (2 * m) = x + 2 * m := by rw [← Int.add_emod_right, Int.emod_eq_of_lt (by omega) (by omega)]
    rw [this, if_pos (by omega)]; omega
theorem wrap_u {k : IntKind} {x : Int} (hs : k.signed = false) (h0 : 0 ≤ x) (h1 : x < (2 ^ k.bits : Int)) : k.wrap x = x := by
  unfold IntKind.wrap
  rw [hs]
  simp only [Bool.false_and, Bool.false_eq_true, if_false]
  exact Int.emod_eq_of_lt h0 h1
theorem wrap_i64 {x : Int} (h0 : -9223372036854775808 ≤ x) (h1 : x < 9223372036854775808) : IntKind.i64.wrap x = x := wrap_s 63 rfl rfl h0 h1
theorem wrap_u8 {x : Int} (h0 : 0 ≤ x) (h1 : x < 256) : IntKind.u8.wrap x = x := wrap_u rfl h0 h1
theorem wrap_u16 {x : Int} (h0 : 0 ≤ x) (h1 : x < 65536) : IntKind.u16.wrap x = x := wrap_u rfl h0 h1
theorem wrap_u32 {x : Int} (h0 : 0 ≤ x) (h1 : x < 4294967296) : IntKind.u32.wrap x = x := wrap_u rfl h0 h1

/-! A number that fits its kind. -/
theorem wf_int {k : IntKind} {x : Int} (h : (Lit.int k x).wf = true) : k.min ≤ x ∧ x ≤ k.max := by simpa [Lit.wf] using h
theorem wf_u8 {x : Int} (h : (Lit.int .u8 x).wf = true) : 0 ≤ x ∧ x < 256 := by have := wf_int h; simp [IntKind.min, IntKind.max, IntKind.signed, IntKind.bits] at this; omega
theorem wf_u16 {x : Int} (h : (Lit.int .u16 x).wf = true) : 0 ≤ x ∧ x < 65536 := by have := wf_int h; simp [IntKind.min, IntKind.max, IntKind.signed, IntKind.bits] at this; omega
theorem wf_u32 {x : Int} (h : (Lit.int .u32 x).wf = true) : 0 ≤ x ∧ x < 4294967296 := by have := wf_int h; simp [IntKind.min, IntKind.max, IntKind.signed, IntKind.bits] at this; omega
theorem wf_i64 {x : Int} (h : (Lit.int .i64 x).wf = true) : -9223372036854775808 ≤ x ∧ x ≤ 9223372036854775807 := by have := wf_int h; simp [IntKind.min, IntKind.max, IntKind.signed, IntKind.bits] at this; omega

/-- The frame of a law: no old block was touched. -/
theorem below_of {w w' : World} (e : Ext w.heap w'.heap) (k : Kept w w') : RowKit.Below w.heap.size w w' := ⟨k.os, k.tape, k.output, e.size, e.same⟩
theorem law_end {w w' : World} {e : Ending} (x : ret (fun v h' => v = .bool true ∧ Ext w.heap h') e w'.heap) (k : Kept w w') : e = .returned (.bool true) ∧ RowKit.Below w.heap.size w w' := by
  cases e with
  | returned v => exact ⟨by rw [x.1], below_of x.2 k⟩
  | _ => exact x.elim
/-- A slice of numbers, as the frames of the laws tell of it. -/
theorem nums_of {k : IntKind} {w : World} {a : Option Addr} {len cap : Nat} {zs : List Int}
    (H : (a = none ∧ len = 0 ∧ cap = 0 ∧ zs = []) ∨ ∃ x, a = some x ∧ len ≤ cap ∧ cap ≤ maxLen ∧ zs.length = cap ∧ (∀ i, i < zs.length → w.cell? (x.add i) = some (.int k (zs.getD i 0))) ∧ ∀ n ∈ zs, (Lit.int k n).wf = true) :
    Nums k w.heap (.slice a len cap) (zs.take len) := by
  rcases H with ⟨rfl, rfl, rfl, rfl⟩ | ⟨x, rfl, h1, h2, h3, h4, h5⟩
  · exact ⟨_, _, _, rfl, rfl, Nat.le_refl _, .inl rfl⟩
  · refine ⟨_, _, _, rfl, by rw [List.length_take]; omega, h1, ?_⟩
    by_cases h0 : len = 0
    · exact .inl h0
    · right
      have c0 := h4 0 (by omega)
      obtain ⟨b, o, sp⟩ := x
      have hs : sp = none := by
        simp [Addr.add, World.cell?] at c0
        split at c0
        · cases sp with
          | none => rfl
          | some _ => simp at c0
        · cases c0
      subst hs
      have hb : b < w.heap.size := by
        by_cases hb : b < w.heap.size
        · exact hb
        · simp [Addr.add, World.cell?, hb] at c0
      refine ⟨b, o, rfl, hb, fun i hi => ?_⟩
      have c := h4 i (by omega)
      have e : (Addr.mk b o none).add i = ⟨b, o + i, none⟩ := by unfold Addr.add; split <;> simp_all
      rw [e, cell_at rfl] at c
      rw [c]
      simp [List.getD_eq_getElem?_getD, hi]
theorem open_nums {H : Type} {enc : TypeId × Value → H} {P : Program} {w : World} {base : Nat} {held : Bool} {t e : TypeId} {k : IntKind} (ht : P.underlying t = some (.slice e)) (he : P.underlying e = some (.int k)) (hc : P.cellsOf e = 1)
    {fuel : Nat} {a : Option Addr} {len cap : Nat} {d : DataW H} {p : List MemPlace} (h : DataW.trod enc P w base (fun _ => true) held fuel t (Value.slice a len cap).cells.toList = some (d, p)) :
    ∃ z, Nums k w.heap (.slice a len cap) z ∧ z.length ≤ maxLen ∧ ∀ n ∈ z, (Lit.int k n).wf = true := by
  rcases ChangeShapes.open_ints ht he hc h with ⟨hcs, _⟩ | ⟨x, l, c, zs, hcs, _, hl, hm, hz, _, hcell, hwz⟩
  · simp [Value.cells] at hcs
    obtain ⟨rfl, rfl, rfl⟩ := hcs
    exact ⟨[], ⟨_, _, _, rfl, rfl, Nat.le_refl _, .inl rfl⟩, by simp, by simp⟩
  · simp [Value.cells] at hcs
    obtain ⟨rfl, rfl, rfl⟩ := hcs
    refine ⟨zs.take len, nums_of (.inr ⟨_, rfl, hl, hm, by simpa using hz, hcell, hwz⟩), by rw [List.length_take]; omega, fun n hn => hwz n (List.mem_of_mem_take hn)⟩
end Go.HW

end

section
/- Blocks written whole, and slices as lists of elements. -/
namespace Go.HW
open Go

section
variable {h : Heap} {b o n t : Nat} {c : Array Value} {K : Value → Prop} {L : Heap → Prop}

theorem size_putRow : ∀ (vs : List Value) (c : Array Value) (o : Nat), (putRow c o vs).size = c.size
  | [], c, o => rfl
  | v :: r, c, o => by rw [putRow, size_putRow r]; simp
theorem get_putRow_lt : ∀ (vs : List Value) (c : Array Value) (o i : Nat), i < o → (putRow c o vs)[i]? = c[i]?
  | [], c, o, i, _ => rfl
  | v :: r, c, o, i, hi => by rw [putRow, get_putRow_lt r _ _ _ (by omega), Array.getElem?_setIfInBounds_ne (by omega)]
theorem get_putRow : ∀ (vs : List Value) (c : Array Value) (o i : Nat), i < vs.length → o + vs.length ≤ c.size → (putRow c o vs)[o + i]? = vs[i]?
  | [], c, o, i, hi, _ => by simp at hi
  | v :: r, c, o, 0, _, hc => by
    simp at hc
    rw [putRow, get_putRow_lt r _ _ _ (by omega), Nat.add_zero, Array.getElem?_setIfInBounds_self_of_lt (by omega)]; rfl
  | v :: r, c, o, i + 1, hi, hc => by
    simp at hi hc
    rw [putRow, show o + (i + 1) = (o + 1) + i by omega, get_putRow r _ _ i hi (by simp; omega)]; simp
theorem get_putRow_ge : ∀ (vs : List Value) (c : Array Value) (o i : Nat), o + vs.length ≤ i → (putRow c o vs)[i]? = c[i]?
  | [], c, o, i, _ => rfl
  | v :: r, c, o, i, hi => by simp at hi; rw [putRow, get_putRow_ge r _ _ _ (by omega), Array.getElem?_setIfInBounds_ne (by omega)]
theorem putRow_whole (vs : Array Value) (c : Array Value) (h : vs.size = c.size) : putRow c 0 vs.toList = vs := by
  apply Array.ext_getElem?
  intro i
  by_cases hi : i < vs.size
  · have := get_putRow vs.toList c 0 i (by simpa using hi) (by simp; omega)
    simpa using this
  · rw [Array.getElem?_eq_none (by rw [size_putRow]; omega), Array.getElem?_eq_none (by omega)]

theorem Heap.has.puts : ∀ (vs : List Value) (h : Heap) (c : Array Value) (o : Nat), h.has b c t → h.puts b o vs = h.upd b (putRow c o vs) t
  | [], h, c, o, hb => by
    show h = h.upd b c t
    unfold Heap.upd
    apply Array.ext_getElem?
    intro i
    by_cases e : b = i
    · subst e; rw [Array.getElem?_setIfInBounds_self_of_lt hb.lt]; exact hb
    · rw [Array.getElem?_setIfInBounds_ne e]
  | v :: r, h, c, o, hb => by
    show (h.put b o v).puts b (o + 1) r = _
    rw [hb.put, Heap.has.puts r _ _ _ (Heap.has_upd hb.lt _ _), Heap.upd_upd]; rfl
theorem Heap.has.fits (hb : h.has b c t) (ho : o + n ≤ c.size) : h.fits b o n := fun i hi => by
  refine ⟨?_, hb.cold _⟩
  rw [hb.at]; simp; omega
theorem Heap.has.row (hb : h.has b c t) (ho : o + n ≤ c.size) : h.row b o n (c.extract o (o + n)) := by
  refine ⟨by simp; omega, fun i hi => ?_⟩
  rw [hb.at, Array.getElem?_extract, if_pos (by omega)]
theorem ev_ldn_has (hb : h.has b c t) (ho : o + n ≤ c.size) : sLdN h (ptr b o) n K = K (.agg (c.extract o (o + n))) := by
  apply propext
  constructor
  · rintro ⟨b', o', cs, e, ⟨h1, h2⟩, x⟩
    cases e
    have : cs = c.extract o (o + n) := by
      apply Array.ext_getElem?
      intro i
      by_cases hi : i < n
      · rw [← h2 i hi, hb.at, Array.getElem?_extract, if_pos (by omega)]
      · rw [Array.getElem?_eq_none (by omega), Array.getElem?_eq_none (by simp; omega)]
    rwa [this] at x
  · exact fun x => ⟨b, o, _, rfl, hb.row ho, x⟩
theorem ev_ldn_all (hb : h.has b c t) (hn : c.size = n) : sLdN h (ptr b 0) n K = K (.agg c) := by
  rw [ev_ldn_has hb (by omega), Nat.zero_add, ← hn, Array.extract_size]
theorem ev_ld_has {v : Value} (hb : h.has b c t) (hv : c[o]? = some v) : sLd h (ptr b o) K = K v := by
  rw [ev_ld, hb.at, hv]
theorem ev_stn_has {cs : Array Value} (hb : h.has b c t) (hs : cs.size = n) (ho : o + n ≤ c.size) (h1 : ∀ u ∈ cs.toList, Cell1 u) : sStN h (ptr b o) (.agg cs) n L = L (h.upd b (putRow c o cs.toList) t) := by
  rw [← hb.puts]
  exact propext ⟨fun ⟨_, _, _, e1, e2, _, _, _, x⟩ => by cases e1; cases e2; exact x, fun x => ⟨b, o, cs, rfl, rfl, hs, h1, hb.fits ho, x⟩⟩
theorem ev_stn_all {cs : Array Value} (hb : h.has b c t) (hs : cs.size = n) (hn : c.size = n) (h1 : ∀ u ∈ cs.toList, Cell1 u) : sStN h (ptr b 0) (.agg cs) n L = L (h.upd b cs t) := by
  rw [ev_stn_has hb hs (by omega) h1, putRow_whole _ _ (by omega)]
theorem Heap.at_push_lt {x : Obj} (hb : b < h.size) : Heap.at (h.push x) b o = h.at b o := by
  unfold Heap.at; rw [Array.getElem?_push, if_neg (by omega)]
end

/-! ### Guarded groups whose right side makes new blocks -/
section
variable {h : Heap} {KH : Value → Heap → Prop} {M : (Value → Heap → Prop) → Prop} {x y : Bool}
theorem and_ext (hM : x = true → ∀ K' : Value → Heap → Prop, (∀ h', Ext h h' → K' (.bool y) h') → M K') (H : ∀ h', Ext h h' → KH (.bool (x && y)) h') : sAndH (.bool x) h M KH := by
  cases x with
  | true => rw [ev_andh, if_pos rfl]; exact hM rfl _ H
  | false => rw [ev_andh]; exact H h (Ext.refl h)
theorem or_ext (hM : x = false → ∀ K' : Value → Heap → Prop, (∀ h', Ext h h' → K' (.bool y) h') → M K') (H : ∀ h', Ext h h' → KH (.bool (x || y)) h') : sOrH (.bool x) h M KH := by
  cases x with
  | true => rw [ev_orh, if_pos rfl]; exact H h (Ext.refl h)
  | false => rw [ev_orh]; exact hM rfl _ H
end
theorem new_intro {h : Heap} {z : Array Value} {t : TypeId} {K : Value → Heap → Prop} (H : ∀ b h', h.size ≤ b → Ext h h' → h'.has b z t → K (ptr b 0) h') : sNew h z t K :=
  H h.size _ (Nat.le_refl _) (Ext.refl h).push (Heap.has_new z t)
theorem box_intro {h : Heap} {x : Value} {c : Array Value} {t : TypeId} {K : Value → Heap → Prop} (hc : x.cells = c) (H : ∀ b h', h.size ≤ b → Ext h h' → h'.has b c t → K (ptr b 0) h') : sBox h x t K := by
  subst hc
  exact H h.size _ (Nat.le_refl _) (Ext.refl h).push (Heap.has_new _ t)
theorem st_intro {h : Heap} {b o t : Nat} {c : Array Value} {v : Value} {K : Heap → Prop} (hb : h.has b c t) (ho : o < c.size) (h3 : Cell1 v) (H : ∀ h', h'.has b (c.setIfInBounds o v) t → h'.size = h.size → (∀ i, i ≠ b → h'[i]? = h[i]?) → K h') : sSt h (ptr b o) v K := by
  rw [ev_st_has hb ho h3]
  exact H _ (Heap.has_upd hb.lt _ _) Heap.size_upd fun i hi => by unfold Heap.upd; rw [Array.getElem?_setIfInBounds_ne (Ne.symm hi)]
theorem stn_intro {h : Heap} {b n t : Nat} {c cs : Array Value} {K : Heap → Prop} (hb : h.has b c t) (hs : cs.size = n) (hn : c.size = n) (h1 : ∀ u ∈ cs.toList, Cell1 u) (H : ∀ h', h'.has b cs t → h'.size = h.size → (∀ i, i ≠ b → h'[i]? = h[i]?) → K h') : sStN h (ptr b 0) (.agg cs) n K := by
  rw [ev_stn_all hb hs hn h1]
  exact H _ (Heap.has_upd hb.lt _ _) Heap.size_upd fun i hi => by unfold Heap.upd; rw [Array.getElem?_setIfInBounds_ne (Ne.symm hi)]
/-- Blocks off b are as they were. -/
theorem Ext.off {h h1 h2 : Heap} {b : Nat} (e : Ext h h1) (hb : h.size ≤ b) (hs : h2.size = h1.size) (ho : ∀ i, i ≠ b → h2[i]? = h1[i]?) : Ext h h2 :=
  ⟨by rw [hs]; exact e.size, fun i hi => by rw [ho i (by omega)]; exact e.same i hi⟩
theorem Heap.has.off {h h' : Heap} {b b' t : Nat} {c : Array Value} (hb : h.has b c t) (ho : ∀ i, i ≠ b' → h'[i]? = h[i]?) (hn : b ≠ b') : h'.has b c t := by
  unfold Heap.has; rw [ho b hn]; exact hb
theorem wrap_u64 (x : Int) : IntKind.u64.wrap x = x % 18446744073709551616 := rfl

/-! ### Slices as lists -/
/-- Cells in a row. -/
def Heap.lay (h : Heap) (b o : Nat) (cs : List Value) : Prop := ∀ i u, cs[i]? = some u → h.at b (o + i) = some u
theorem Heap.lay.row {h : Heap} {b o : Nat} {cs : List Value} (l : h.lay b o cs) : h.row b o cs.length cs.toArray :=
  ⟨by simp, fun i hi => by rw [l i cs[i] (by simp [hi])]; simp [hi]⟩
theorem Heap.lay.ldn {h : Heap} {b o n : Nat} {cs : List Value} {K : Value → Prop} (l : h.lay b o cs) (hn : cs.length = n) : sLdN h (ptr b o) n K = K (.agg cs.toArray) := by
  subst hn
  apply propext
  constructor
  · rintro ⟨b', o', ds, e, ⟨h1, h2⟩, x⟩
    cases e
    have : ds = cs.toArray := by
      apply Array.ext_getElem?
      intro i
      by_cases hi : i < cs.length
      · rw [← h2 i hi, l.row.2 i hi]
      · rw [Array.getElem?_eq_none (by omega), Array.getElem?_eq_none (by simp; omega)]
    rwa [this] at x
  · exact fun x => ⟨b, o, _, rfl, l.row, x⟩
theorem Heap.lay.ld {h : Heap} {b o i : Nat} {cs : List Value} {u : Value} {K : Value → Prop} (l : h.lay b o cs) (hi : cs[i]? = some u) : sLd h (ptr b (o + i)) K = K u := by
  rw [ev_ld, l i u hi]

section
variable {α : Type} {enc : α → List Value} {sz : Nat} {h h' : Heap} {v : Value} {l : List α} {K : Value → Prop}
/-- The slice v bears these elements. -/
def Seq (enc : α → List Value) (sz : Nat) (h : Heap) (v : Value) (l : List α) : Prop :=
  ∃ a n m, v = .slice a n m ∧ l.length = n ∧ n ≤ m ∧ (n = 0 ∨ ∃ b o, a = some ⟨b, o, none⟩ ∧ b < h.size ∧ ∀ j x, l[j]? = some x → h.lay b (o + j * sz) (enc x))
theorem Seq.ext (a : Seq enc sz h v l) (e : Ext h h') : Seq enc sz h' v l := by
  obtain ⟨a, n, m, rfl, hn, hm, h0 | ⟨b, o, rfl, hb, hc⟩⟩ := a
  · exact ⟨_, _, _, rfl, hn, hm, .inl h0⟩
  · exact ⟨_, _, _, rfl, hn, hm, .inr ⟨b, o, rfl, Nat.lt_of_lt_of_le hb e.size, fun j x hj i u hu => (e.at hb).trans (hc j x hj i u hu)⟩⟩
theorem Seq.len (a : Seq enc sz h v l) : sLen v K = K (.int .i64 l.length) := by
  obtain ⟨a, n, m, rfl, hn, _, _⟩ := a
  rw [ev_len, hn]
/-- Element j. -/
theorem Seq.ix (a : Seq enc sz h v l) {j : Nat} {x : α} (hj : l[j]? = some x) : ∃ b o, b < h.size ∧ h.lay b o (enc x) ∧ ∀ (q : IntKind) (K : Value → Prop), sIxS v (.int q j) sz K = K (ptr b o) := by
  have hlt : j < l.length := (List.getElem?_eq_some_iff.1 hj).1
  obtain ⟨a, n, m, rfl, hn, hm, h2 | ⟨b, o, rfl, hb, hc⟩⟩ := a
  · omega
  · refine ⟨b, o + j * sz, hb, hc j x hj, fun q K => ?_⟩
    rw [ev_ixs (by omega) (by omega)]; rfl
theorem Seq.ldn (a : Seq enc sz h v l) {j : Nat} {x : α} (hj : l[j]? = some x) (hs : (enc x).length = sz) (q : IntKind) : sIxS v (.int q j) sz (fun p => sLdN h p sz K) = K (.agg (enc x).toArray) := by
  obtain ⟨b, o, _, h1, h2⟩ := a.ix hj
  rw [h2, h1.ldn hs]
theorem Seq.ld (a : Seq enc sz h v l) {j : Nat} {x : α} {u : Value} (hj : l[j]? = some x) (hu : enc x = [u]) (q : IntKind) : sIxS v (.int q j) sz (fun p => sLd h p K) = K u := by
  obtain ⟨b, o, _, h1, h2⟩ := a.ix hj
  have := h1.ld (K := K) (i := 0) (u := u) (by rw [hu]; rfl)
  rw [h2]; exact this
theorem get_flat (hs : ∀ x : α, (enc x).length = sz) : ∀ (l : List α) (j i : Nat) (x : α), l[j]? = some x → i < sz → (l.flatMap enc)[j * sz + i]? = (enc x)[i]?
  | [], j, i, x, hj, _ => by simp at hj
  | y :: l, 0, i, x, hj, hi => by
    simp at hj; subst hj
    rw [List.flatMap_cons, Nat.zero_mul, Nat.zero_add, List.getElem?_append_left (by rw [hs]; exact hi)]
  | y :: l, j + 1, i, x, hj, hi => by
    simp at hj
    rw [List.flatMap_cons, List.getElem?_append_right (by rw [hs, Nat.add_mul]; omega), hs, ← get_flat hs l j i x hj hi]
    congr 1
    rw [Nat.add_mul]; omega
theorem length_flat (hs : ∀ x : α, (enc x).length = sz) : ∀ (l : List α), (l.flatMap enc).length = l.length * sz
  | [] => by simp
  | y :: l => by rw [List.flatMap_cons, List.length_append, hs, length_flat hs l, List.length_cons, Nat.add_mul]; omega
/-- Where it lies: a row of cells. -/
theorem Seq.rowOf (hs : ∀ x : α, (enc x).length = sz) (a : Seq enc sz h v l) : HW.rowOf h v sz l.length (l.flatMap enc).toArray := by
  obtain ⟨a, n, m, rfl, hn, hm, h2 | ⟨b, o, rfl, hb, hc⟩⟩ := a
  · have : l = [] := List.eq_nil_of_length_eq_zero (by omega)
    subst this
    cases a with
    | none => rfl
    | some a => exact .inl ⟨rfl, rfl⟩
  · refine .inr ⟨rfl, by simp [length_flat hs], fun i hi => ?_⟩
    have hz : 0 < sz := by rcases Nat.eq_zero_or_pos sz with e | e; (subst e; simp at hi); exact e
    have hj : i / sz < l.length := (Nat.div_lt_iff_lt_mul hz).2 hi
    have hm : i % sz < sz := Nat.mod_lt _ hz
    have e : i = i / sz * sz + i % sz := by rw [Nat.mul_comm]; exact (Nat.div_add_mod i sz).symm
    have g := get_flat hs l (i / sz) (i % sz) l[i / sz] (by simp [hj]) hm
    rw [← e] at g
    have hx : (enc l[i / sz])[i % sz]? = some ((enc l[i / sz])[i % sz]'(by rw [hs]; exact hm)) := by simp
    have c := hc (i / sz) l[i / sz] (by simp [hj]) (i % sz) _ hx
    show h.at b (o + i) = _
    rw [show o + i = o + i / sz * sz + i % sz by omega, c, List.getElem?_toArray, g, hx]
theorem Seq.lenV (a : Seq enc sz h v l) : HW.lenV v = some l.length := by
  obtain ⟨a, n, m, rfl, hn, _, _⟩ := a
  rw [hn]; rfl

/-- A slice of one's own: it may be written, as far as its room goes. -/
def Own (enc : α → List Value) (sz : Nat) (h : Heap) (k : Option Nat) (v : Value) (l : List α) : Prop :=
  (k = none ∧ v = .slice none 0 0 ∧ l = []) ∨
  ∃ b p n m c t, k = some b ∧ v = .slice (some ⟨b, p, none⟩) n m ∧ l.length = n ∧ n ≤ m ∧ h.has b c t ∧ p + m * sz ≤ c.size ∧ ∀ j x, l[j]? = some x → ∀ i u, (enc x)[i]? = some u → c[p + j * sz + i]? = some u
theorem Own.nil : Own enc sz h none (.slice none 0 0) [] := .inl ⟨rfl, rfl, rfl⟩
theorem Own.seq {k : Option Nat} (o : Own enc sz h k v l) : Seq enc sz h v l := by
  rcases o with ⟨rfl, rfl, rfl⟩ | ⟨b, p, n, m, c, t, rfl, rfl, hn, hm, hb, hs, hc⟩
  · exact ⟨none, 0, 0, rfl, rfl, Nat.le_refl _, .inl rfl⟩
  · refine ⟨_, _, _, rfl, hn, hm, .inr ⟨b, p, rfl, hb.lt, fun j x hj i u hu => ?_⟩⟩
    rw [hb.at]; exact hc j x hj i u hu
/-- What keeps its block keeps it. -/
theorem Own.keep {k : Option Nat} (o : Own enc sz h k v l) (e : ∀ b, k = some b → h'[b]? = h[b]?) : Own enc sz h' k v l := by
  rcases o with ⟨rfl, rfl, rfl⟩ | ⟨b, p, n, m, c, t, rfl, rfl, hn, hm, hb, hs, hc⟩
  · exact .inl ⟨rfl, rfl, rfl⟩
  · exact .inr ⟨b, p, n, m, c, t, rfl, rfl, hn, hm, by unfold Heap.has; rw [e b rfl]; exact hb, hs, hc⟩
theorem Own.lt {k : Option Nat} (o : Own enc sz h k v l) {b : Nat} (hk : k = some b) : b < h.size := by
  rcases o with ⟨rfl, _, _⟩ | ⟨b', p, n, m, c, t, rfl, rfl, hn, hm, hb, hs, hc⟩
  · cases hk
  · cases hk; exact hb.lt
theorem Own.ext {k : Option Nat} (o : Own enc sz h k v l) (e : Ext h h') : Own enc sz h' k v l := o.keep fun _ hb => e.same _ (o.lt hb)
/-- From i to j. -/
theorem Own.cut {k : Option Nat} (o : Own enc sz h k v l) {i j : Nat} (hi : i ≤ j) (hj : j ≤ l.length) : ∃ v', Own enc sz h k v' ((l.take j).drop i) ∧ ∀ (lo hi : Option Value) (K : Value → Prop), bnd lo 0 i → bnd hi l.length j → K v' → sSl v lo hi sz K := by
  rcases o with ⟨rfl, rfl, rfl⟩ | ⟨b, p, n, m, c, t, rfl, rfl, hn, hm, hb, hs, hc⟩
  · simp at hj
    subst hj
    have : i = 0 := by omega
    subst this
    exact ⟨.slice none 0 0, .inl ⟨rfl, rfl, by simp⟩, fun lo hi K h1 h2 hk => ⟨none, 0, 0, 0, 0, rfl, h1, h2, by omega, by omega, hk⟩⟩
  · subst hn
    refine ⟨cutV (some ⟨b, p, none⟩) i j m sz, ?_, fun lo hi K h1 h2 hk => ⟨_, _, m, i, j, rfl, h1, h2, by omega, by omega, hk⟩⟩
    unfold cutV
    have hlen : ((l.take j).drop i).length = j - i := by rw [List.length_drop, List.length_take]; omega
    have hget : ∀ q x, ((l.take j).drop i)[q]? = some x → l[i + q]? = some x := fun q x hq => by
      rw [List.getElem?_drop, List.getElem?_take] at hq
      split at hq
      · exact hq
      · cases hq
    by_cases e : m = i
    · rw [if_pos e]
      refine .inr ⟨b, p, _, _, c, t, rfl, rfl, hlen, by omega, hb, ?_, fun q x hq => ?_⟩
      · have : m - i = 0 := by omega
        rw [this]; omega
      · have := (List.getElem?_eq_some_iff.1 hq).1
        omega
    · rw [if_neg e]
      have ea : Option.map (fun x : Addr => x.add (i * sz)) (some ⟨b, p, none⟩) = some ⟨b, p + i * sz, none⟩ := by
        simp only [Option.map_some, Addr.add]; split <;> simp_all
      rw [ea]
      refine .inr ⟨b, p + i * sz, _, _, c, t, rfl, rfl, hlen, by omega, hb, ?_, fun q x hq r u hu => ?_⟩
      · rw [Nat.add_assoc, ← Nat.add_mul, show i + (m - i) = m by omega]; exact hs
      · have := hc (i + q) x (hget q x hq) r u hu
        rw [Nat.add_mul] at this
        rw [← this]; congr 1; omega
theorem Seq.cut (o : Seq enc sz h v l) {i j : Nat} (hi : i ≤ j) (hj : j ≤ l.length) : ∃ v', Seq enc sz h v' ((l.take j).drop i) ∧ ∀ (lo hi : Option Value) (K : Value → Prop), bnd lo 0 i → bnd hi l.length j → K v' → sSl v lo hi sz K := by
  obtain ⟨a, n, m, rfl, hn, hm, hd⟩ := o
  subst hn
  have hlen : ((l.take j).drop i).length = j - i := by rw [List.length_drop, List.length_take]; omega
  have hget : ∀ q x, ((l.take j).drop i)[q]? = some x → l[i + q]? = some x := fun q x hq => by
    rw [List.getElem?_drop, List.getElem?_take] at hq
    split at hq
    · exact hq
    · cases hq
  refine ⟨cutV a i j m sz, ?_, fun lo hi K h1 h2 hk => ⟨_, _, m, i, j, rfl, h1, h2, by omega, by omega, hk⟩⟩
  unfold cutV
  refine ⟨_, _, _, rfl, hlen, by omega, ?_⟩
  by_cases h0 : j - i = 0
  · exact .inl h0
  rcases hd with hd | ⟨b, o, rfl, hb, hc⟩
  · omega
  right
  have ea : Option.map (fun x : Addr => x.add (i * sz)) (some ⟨b, o, none⟩) = some ⟨b, o + i * sz, none⟩ := by
    simp only [Option.map_some, Addr.add]; split <;> simp_all
  refine ⟨b, o + i * sz, by rw [if_neg (by omega), ea], hb, fun q x hq => ?_⟩
  have := hc (i + q) x (hget q x hq)
  rw [Nat.add_mul] at this
  rw [Nat.add_assoc]; exact this
theorem ev_app {β : Type} {enc : β → List Value} {sz bytes e : Nat} {z : Array Value} {h : Heap} {k : Option Nat} {v w : Value} {l r : List β} {K : Value → Heap → Prop} (hz : z.size = sz) (h0 : 0 < sz)
    (hs : ∀ x, (enc x).length = sz) (h1 : ∀ x, ∀ u ∈ enc x, Cell1 u) (o : Own enc sz h k v l) (hl : HW.lenV w = some r.length) (hr : HW.rowOf h w sz r.length (r.flatMap enc).toArray)
    (hb : (l.length + r.length) * bytes ≤ 2 ^ 40) (hb0 : 0 < bytes)
    (H : ∀ k' v' h', Own enc sz h' k' v' (l ++ r) → (k' = k ∨ k' = some h.size) → h.size ≤ h'.size → (∀ i, i < h.size → some i ≠ k → h'[i]? = h[i]?) → K v' h') : sApp h v w z e bytes K := by
  subst hz
  have hf : (r.flatMap enc).length = r.length * z.size := length_flat hs r
  have hcell : ∀ u ∈ (r.flatMap enc).toArray.toList, Cell1 u := fun u hu => by
    simp at hu
    obtain ⟨x, _, hx⟩ := hu
    exact h1 x u hx
  rcases o with ⟨rfl, rfl, rfl⟩ | ⟨b, p, n, m, c, t, rfl, rfl, hn, hm, hhas, hcs, hc⟩
  · refine ⟨none, 0, 0, r.length, _, rfl, hl, hr, by simpa using hf, by simpa using hb, hb0, hcell, fun x => ?_, fun x => ⟨#[], rfl, fun q hq hq2 => ?_⟩⟩
    · left
      have : r = [] := List.eq_nil_of_length_eq_zero (by omega)
      subst this
      exact ⟨rfl, H none _ h .nil (.inl rfl) (Nat.le_refl _) fun _ _ _ => rfl⟩
    · refine H (some h.size) _ _ (.inr ⟨h.size, 0, _, q, _, e, rfl, rfl, by simp, by omega, Heap.has_new _ _, ?_, ?_⟩) (.inr rfl) (by rw [Array.size_push]; omega) (fun i hi _ => by rw [Array.getElem?_push, if_neg (by omega)])
      · simp [Builtin.zeroCells, hf]
        rw [← Nat.add_mul]; exact Nat.mul_le_mul_right _ (by omega)
      · intro j x hj i u hu
        simp at hj
        have hi : i < z.size := by have := (List.getElem?_eq_some_iff.1 hu).1; rw [hs] at this; exact this
        have g := get_flat hs r j i x hj hi
        rw [hu] at g
        have hlt := (List.getElem?_eq_some_iff.1 g).1
        rw [Nat.zero_add, Array.getElem?_append_left (by simpa using hlt), Array.getElem?_append_right (by simp)]
        simpa using g
  · subst hn
    have hml := Nat.mul_le_mul_right z.size hm
    refine ⟨_, l.length, m, r.length, _, rfl, hl, hr, by simpa using hf, hb, hb0, hcell, fun x => .inr ⟨b, p, rfl, ?_, ?_⟩, fun x => ⟨c.extract p (p + l.length * z.size), ?_, fun q hq hq2 => ?_⟩⟩
    · refine hhas.fits ?_
      have := Nat.mul_le_mul_right z.size x
      rw [Nat.add_mul] at this; omega
    · rw [hhas.puts]
      refine H (some b) _ _ (.inr ⟨b, p, _, m, _, t, rfl, rfl, by simp, x, Heap.has_upd hhas.lt _ _, by rw [size_putRow]; exact hcs, ?_⟩) (.inl rfl) (by simp) (fun i hi hne => ?_)
      · intro j y hj i u hu
        have hi : i < z.size := by have := (List.getElem?_eq_some_iff.1 hu).1; rw [hs] at this; exact this
        by_cases hjl : j < l.length
        · rw [List.getElem?_append_left hjl] at hj
          rw [get_putRow_lt]
          · exact hc j y hj i u hu
          · have b1 : j * z.size + i < l.length * z.size := by
              calc j * z.size + i < j * z.size + z.size := by omega
                _ = (j + 1) * z.size := by rw [Nat.add_mul, Nat.one_mul]
                _ ≤ l.length * z.size := Nat.mul_le_mul_right _ hjl
            omega
        · rw [List.getElem?_append_right (by omega)] at hj
          have g := get_flat hs r (j - l.length) i y hj hi
          rw [hu] at g
          have hlt := (List.getElem?_eq_some_iff.1 g).1
          have e3 : j * z.size = l.length * z.size + (j - l.length) * z.size := by rw [← Nat.add_mul]; congr 1; omega
          have e2 : p + j * z.size + i = p + l.length * z.size + ((j - l.length) * z.size + i) := by omega
          rw [e2, get_putRow _ _ _ _ (by simpa using hlt)]
          · simpa using g
          · have := Nat.mul_le_mul_right z.size x
            rw [Nat.add_mul] at this
            have q1 : (r.flatMap enc).toArray.toList.length = (r.flatMap enc).length := (by simp)
            rw [q1]; omega
      · unfold Heap.upd
        rw [Array.getElem?_setIfInBounds_ne]
        intro e; subst e; exact hne rfl
    · have := hhas.row (o := p) (n := l.length * z.size) (by omega)
      exact .inr ⟨rfl, this⟩
    · have hel : (c.extract p (p + l.length * z.size)).size = l.length * z.size := by
        simp; omega
      refine H (some h.size) _ _ (.inr ⟨h.size, 0, _, q, _, e, rfl, rfl, by simp, by omega, Heap.has_new _ _, ?_, ?_⟩) (.inr rfl) (by rw [Array.size_push]; omega) (fun i hi _ => by rw [Array.getElem?_push, if_neg (by omega)])
      · rw [Array.size_append, Array.size_append, hel]
        simp [Builtin.zeroCells, hf]
        rw [← Nat.add_mul, ← Nat.add_mul]; exact Nat.mul_le_mul_right _ (by omega)
      · intro j y hj i u hu
        have hi : i < z.size := by have := (List.getElem?_eq_some_iff.1 hu).1; rw [hs] at this; exact this
        rw [Nat.zero_add]
        by_cases hjl : j < l.length
        · rw [List.getElem?_append_left hjl] at hj
          have b1 : j * z.size + i < l.length * z.size := by
            calc j * z.size + i < j * z.size + z.size := by omega
              _ = (j + 1) * z.size := by rw [Nat.add_mul, Nat.one_mul]
              _ ≤ l.length * z.size := Nat.mul_le_mul_right _ hjl
          rw [Array.getElem?_append_left (by rw [Array.size_append, hel]; omega), Array.getElem?_append_left (by rw [hel]; exact b1), Array.getElem?_extract, if_pos (by omega)]
          have := hc j y hj i u hu
          rw [Nat.add_assoc] at this
          exact this
        · rw [List.getElem?_append_right (by omega)] at hj
          have g := get_flat hs r (j - l.length) i y hj hi
          rw [hu] at g
          have hlt := (List.getElem?_eq_some_iff.1 g).1
          have e3 : j * z.size = l.length * z.size + (j - l.length) * z.size := by rw [← Nat.add_mul]; congr 1; omega
          have e2 : j * z.size + i = l.length * z.size + ((j - l.length) * z.size + i) := by omega
          rw [e2, Array.getElem?_append_left (by have q1 : (r.flatMap enc).toArray.size = (r.flatMap enc).length := (by simp); rw [Array.size_append, hel, q1]; omega), Array.getElem?_append_right (by rw [hel]; omega), hel, Nat.add_sub_cancel_left]
          simpa using g
end

/-! ### Literals of slices; loads with their heap left open -/
theorem fill_eq {d : Array Value} {P : Array Value → Prop} (hP : P d) : ∀ (ps : List (Nat × Nat × Value)) (z : Array Value), sFill z ps (fun cs => cs = d) → sFill z ps P
  | [], z, h => by have h : z = d := h; subst h; exact hP
  | (o, n, v) :: r, z, h => ⟨h.1, h.2.1, fill_eq hP r _ h.2.2⟩
theorem own_new {α : Type} {enc : α → List Value} {sz b t : Nat} {h : Heap} (hs : ∀ x, (enc x).length = sz) (l : List α) (hb : h.has b (l.flatMap enc).toArray t) : Own enc sz h (some b) (.slice (some ⟨b, 0, none⟩) l.length l.length) l := by
  refine .inr ⟨b, 0, _, _, _, t, rfl, rfl, rfl, Nat.le_refl _, hb, by simp [length_flat hs], fun j x hj i u hu => ?_⟩
  have hi : i < sz := by have := (List.getElem?_eq_some_iff.1 hu).1; rw [hs] at this; exact this
  have g := get_flat hs l j i x hj hi
  rw [hu] at g
  simpa using g
theorem slit_intro {α : Type} {enc : α → List Value} {sz t n : Nat} {h : Heap} {z : Array Value} {ps : List (Nat × Nat × Value)} {K : Value → Heap → Prop} (hs : ∀ x, (enc x).length = sz) (l : List α) (hn : l.length = n)
    (hf : sFill z ps fun cs => cs = (l.flatMap enc).toArray) (H : ∀ b v h', h.size ≤ b → Ext h h' → Own enc sz h' (some b) v l → K v h') : sSlit h z ps t n K := by
  subst hn
  exact fill_eq (H h.size _ _ (Nat.le_refl _) (Ext.refl h).push (own_new hs l (Heap.has_new _ t))) _ _ hf
theorem ldc_at {C : Heap → Prop} {b o : Nat} {v : Value} {K : Value → Prop} {h0 : Heap} (h1 : C h0) (hv : ∀ h, C h → h.at b o = some v) : sLdC C (ptr b o) K = K v :=
  propext ⟨fun ⟨_, _, u, e, hu, x⟩ => by
    cases e
    have := (hu h0 h1).symm.trans (hv h0 h1)
    cases this; exact x, fun x => ⟨b, o, v, rfl, hv, x⟩⟩
theorem ldnc_all {C : Heap → Prop} {b n t : Nat} {c : Array Value} {K : Value → Prop} {h0 : Heap} (h1 : C h0) (hc : c.size = n) (hv : ∀ h, C h → h.has b c t) : sLdNC C (ptr b 0) n K = K (.agg c) :=
  propext ⟨fun ⟨_, _, u, e, hu, x⟩ => by
    cases e
    have h2 := hu h0 h1
    have : u = c := by
      apply Array.ext_getElem?
      intro i
      by_cases hi : i < n
      · rw [← h2.2 i hi, (hv h0 h1).at, Nat.zero_add]
      · have := h2.1
        rw [Array.getElem?_eq_none (by omega), Array.getElem?_eq_none (by omega)]
    rwa [this] at x, fun x => ⟨b, 0, c, rfl, fun h hh => ⟨hc, fun i hi => by rw [(hv h hh).at, Nat.zero_add]⟩, x⟩⟩
theorem build_intro {z cs : Array Value} {ps : List (Nat × Nat × Value)} {K : Value → Prop} (hf : sFill z ps fun d => d = cs) (H : K (.agg cs)) : sBuild z ps K := fill_eq H ps z hf
/-- Rows of numbers, as slices of elements of one cell. -/
def encI (k : IntKind) (n : Int) : List Value := [.int k n]
theorem encI_len (k : IntKind) (n : Int) : (encI k n).length = 1 := rfl
theorem encI_cell (k : IntKind) (n : Int) : ∀ u ∈ encI k n, Cell1 u := by intro u hu; simp [encI] at hu; subst hu; trivial
abbrev Ints (k : IntKind) (h : Heap) (v : Value) (l : List Int) : Prop := Seq (encI k) 1 h v l
abbrev OwnI (k : IntKind) (h : Heap) (b : Option Nat) (v : Value) (l : List Int) : Prop := Own (encI k) 1 h b v l
theorem Ints.get {k : IntKind} {h : Heap} {v : Value} {l : List Int} {K : Value → Prop} (a : Ints k h v l) {j : Nat} (hj : j < l.length) (q : IntKind) : sIxS v (.int q j) 1 (fun p => sLd h p K) = K (.int k (l.getD j 0)) :=
  Seq.ld a (j := j) (x := l.getD j 0) (by simp [List.getD_eq_getElem?_getD, hj]) rfl q
theorem Nums.ints {k : IntKind} {h : Heap} {v : Value} {l : List Int} (a : Nums k h v l) : Ints k h v l := by
  obtain ⟨a, n, m, rfl, hn, hm, h2 | ⟨b, o, rfl, hb, hc⟩⟩ := a
  · exact ⟨_, _, _, rfl, hn, hm, .inl h2⟩
  · refine ⟨_, _, _, rfl, hn, hm, .inr ⟨b, o, rfl, hb, fun j x hj i u hu => ?_⟩⟩
    have hlt := (List.getElem?_eq_some_iff.1 hj).1
    have hi : i = 0 := by have := (List.getElem?_eq_some_iff.1 hu).1; simp [encI] at this; exact this
    subst hi
    have := hc j (by omega)
    simp [encI] at hu
    rw [List.getD_eq_getElem?_getD, hj] at this
    rw [Nat.add_zero, Nat.mul_one, this, ← hu]; rfl
end Go.HW

end

section
/- Heaps that changed in some blocks alone. -/
namespace Go.HW
open Go

/-- Outside the blocks S, what was there is as it was. -/
structure Chg (S : Nat → Prop) (h h' : Heap) : Prop where
  size : h.size ≤ h'.size
  same : ∀ i, i < h.size → ¬ S i → h'[i]? = h[i]?

section
variable {h h' h'' : Heap} {S T : Nat → Prop} {b o t : Nat} {c : Array Value}
theorem Chg.refl (S : Nat → Prop) (h : Heap) : Chg S h h := ⟨Nat.le_refl _, fun _ _ _ => rfl⟩
theorem Ext.chg (e : Ext h h') (S : Nat → Prop) : Chg S h h' := ⟨e.size, fun i hi _ => e.same i hi⟩
/-- What changed later lies in S, or is new. -/
theorem Chg.trans (a : Chg S h h') (b : Chg T h' h'') (hT : ∀ i, T i → S i ∨ h.size ≤ i) : Chg S h h'' :=
  ⟨Nat.le_trans a.size b.size, fun i hi hn => (b.same i (Nat.lt_of_lt_of_le hi a.size) (fun ht => by rcases hT i ht with x | x; exact hn x; omega)).trans (a.same i hi hn)⟩
theorem Chg.mono (a : Chg S h h') (hT : ∀ i, i < h.size → S i → T i) : Chg T h h' := ⟨a.size, fun i hi hn => a.same i hi fun x => hn (hT i hi x)⟩
theorem Chg.has (a : Chg S h h') (hb : h.has b c t) (hn : ¬ S b) : h'.has b c t := by unfold Heap.has; rw [a.same b hb.lt hn]; exact hb
theorem Chg.at (a : Chg S h h') (hb : b < h.size) (hn : ¬ S b) : h'.at b o = h.at b o := by unfold Heap.at; rw [a.same b hb hn]
/-- What changed is new to h. -/
theorem Ext.chg_trans (a : Ext h h') (b : Chg S h' h'') (hS : ∀ i, S i → h.size ≤ i) : Ext h h'' :=
  ⟨Nat.le_trans a.size b.size, fun i hi => (b.same i (Nat.lt_of_lt_of_le hi a.size) (fun hs => by have := hS i hs; omega)).trans (a.same i hi)⟩
theorem Own.chg {α : Type} {enc : α → List Value} {sz : Nat} {k : Option Nat} {v : Value} {l : List α} (o : Own enc sz h k v l) (a : Chg S h h') (hn : ∀ b, k = some b → ¬ S b) : Own enc sz h' k v l :=
  o.keep fun b hb => a.same b (o.lt hb) (hn b hb)
theorem chg_put (S : Nat → Prop) (hs : S b) (hz : h'.size = h.size) (ho : ∀ i, i ≠ b → h'[i]? = h[i]?) : Chg S h h' :=
  ⟨by omega, fun i _ hn => ho i fun e => by subst e; exact hn hs⟩
end

theorem app_intro {β : Type} {enc : β → List Value} {sz bytes e : Nat} {z : Array Value} {h : Heap} {k : Option Nat} {v w : Value} {l r : List β} {K : Value → Heap → Prop} (hz : z.size = sz) (h0 : 0 < sz)
    (hs : ∀ x, (enc x).length = sz) (h1 : ∀ x, ∀ u ∈ enc x, Cell1 u) (o : Own enc sz h k v l) (q : Seq enc sz h w r)
    (hb : (l.length + r.length) * bytes ≤ 2 ^ 40) (hb0 : 0 < bytes)
    (H : ∀ k' v' h', Own enc sz h' k' v' (l ++ r) → (k' = k ∨ k' = some h.size) → Chg (fun i => some i = k) h h' → K v' h') : sApp h v w z e bytes K :=
  ev_app hz h0 hs h1 o q.lenV (q.rowOf hs) hb hb0 fun k' v' h' o' hk hs hh => H k' v' h' o' hk ⟨hs, fun i hi hn => hh i hi hn⟩
end Go.HW

end

section
/- Slices of structs that came in as arguments. -/
namespace Go.HW
open Go

/-- A slice whose elements are read one by one. -/
theorem open_seq {α : Type} [Inhabited α] {enc : α → List Value} {sz : Nat} {good : α → Prop} {H : Type} {en : TypeId × Value → H} {P : Program} {w : World} {base : Nat} {held : Bool} {t e : TypeId} (ht : P.underlying t = some (.slice e)) (hc : P.cellsOf e = sz) (h0 : 0 < sz) (hs : ∀ x, (enc x).length = sz)
    (elem : ∀ (n : Nat) (cs : List Value) (x : DataW H × List MemPlace), cs.length = sz → DataW.trod en P w base (fun _ => true) held n e cs = some x → ∃ y, cs = enc y ∧ good y)
    {fuel : Nat} {a : Option Addr} {len cap : Nat} {x : DataW H × List MemPlace} (h : DataW.trod en P w base (fun _ => true) held fuel t (Value.slice a len cap).cells.toList = some x) :
    ∃ l : List α, Seq enc sz w.heap (.slice a len cap) l ∧ l.length ≤ maxLen ∧ ∀ y ∈ l, good y := by
  rcases Deep.open_slice ht h with ⟨hcs, _⟩ | ⟨x, l, c, m, n, D, Pl, hcs, _, hl, hm, hmm, _, hel⟩
  · simp [Value.cells] at hcs
    obtain ⟨rfl, rfl, rfl⟩ := hcs
    exact ⟨[], ⟨_, _, _, rfl, rfl, Nat.le_refl _, .inl rfl⟩, by simp, by simp⟩
  · simp [Value.cells] at hcs
    obtain ⟨rfl, rfl, rfl⟩ := hcs
    simp at hmm
    subst hmm
    have hx : ∀ i, i < len → ∃ y : α, w.cells? base (x.add (i * sz)) sz = some (enc y) ∧ good y := fun i hi => by
      obtain ⟨cs', h1, h2⟩ := hel i (by omega)
      rw [hc] at h1
      obtain ⟨y, rfl, hy⟩ := elem _ _ _ (World.cells?_some h1).2.1 h2
      exact ⟨y, h1, hy⟩
    obtain ⟨f, hf⟩ := Deep.choose_lt hx
    refine ⟨(List.range len).map f, ⟨_, _, _, rfl, by simp, hl, ?_⟩, by simp; omega, fun y hy => ?_⟩
    · by_cases hz : len = 0
      · exact .inl hz
      right
      obtain ⟨b, o, sp⟩ := x
      have c0 := (World.cells?_some (hf 0 (by omega)).1).2.2 0 h0
      have hlt0 : 0 < (enc (f 0)).length := by rw [hs]; exact h0
      rw [List.getElem?_eq_getElem hlt0] at c0
      have hsp : sp = none := by
        simp [Addr.add, World.cell?] at c0
        split at c0
        · cases sp with
          | none => rfl
          | some _ => simp at c0
        · cases c0
      subst hsp
      have hb : b < w.heap.size := by
        by_cases hb : b < w.heap.size
        · exact hb
        · simp [Addr.add, World.cell?, hb] at c0
      refine ⟨b, o, rfl, hb, fun j y hj i u hu => ?_⟩
      have hjl : j < len := by have := (List.getElem?_eq_some_iff.1 hj).1; simpa using this
      have hy : y = f j := by simp [hjl] at hj; exact hj.symm
      subst hy
      have hi : i < sz := by have := (List.getElem?_eq_some_iff.1 hu).1; rw [hs] at this; exact this
      have c := (World.cells?_some (hf j hjl).1).2.2 i hi
      have e1 : ∀ p : Nat, (Addr.mk b o none).add p = ⟨b, o + p, none⟩ := fun p => by unfold Addr.add; split <;> simp_all
      have e2 : ∀ p q : Nat, (Addr.mk b p none).add q = ⟨b, p + q, none⟩ := fun p q => by unfold Addr.add; split <;> simp_all
      rw [e1, e2, cell_at rfl, hu] at c
      exact c
    · simp at hy
      obtain ⟨i, hi, rfl⟩ := hy
      exact (hf i hi).2

/-- An element of two numbers. -/
theorem elem_two {k0 k1 : IntKind} {H : Type} {en : TypeId × Value → H} {P : Program} {w : World} {base : Nat} {spare : Nat → Bool} {held : Bool} {e : TypeId} {f0 f1 : Field} (hs : P.underlying e = some (.struct #[f0, f1])) (o0 : f0.offset = 0) (o1 : f1.offset = 1) (c0 : P.cellsOf f0.type = 1) (c1 : P.cellsOf f1.type = 1)
    (u0 : P.underlying f0.type = some (.int k0)) (u1 : P.underlying f1.type = some (.int k1)) (n : Nat) (cs : List Value) (x : DataW H × List MemPlace) (hl : cs.length = 2) (h : DataW.trod en P w base spare held n e cs = some x) :
    ∃ y : Int × Int, cs = [.int k0 y.1, .int k1 y.2] ∧ ((Lit.int k0 y.1).wf = true ∧ (Lit.int k1 y.2).wf = true) := by
  obtain ⟨y0, y1, m, _, _, h0, h1⟩ := _root_.Go.ChangeShapes.trod_struct2 hs h
  match cs, hl with
  | [a, b], _ =>
    rw [o0, c0] at h0
    rw [o1, c1] at h1
    obtain ⟨p, e0, _, w0⟩ := DataW.trod_int u0 h0
    obtain ⟨q, e1, _, w1⟩ := DataW.trod_int u1 h1
    simp at e0 e1
    subst e0 e1
    exact ⟨(p, q), rfl, w0, w1⟩
end Go.HW

end

section
/- Heaps in parts: predicates with a footprint, side by side; the frame comes along by itself. -/
namespace Go.HW
open Go

/-- A heap predicate with its footprint: the blocks that it owns. -/
structure HP where
  P : (Nat → Prop) → Heap → Prop
  loc : ∀ {s h h'}, P s h → (∀ b, s b → h'[b]? = h[b]?) → P s h'
  dom : ∀ {s h}, P s h → ∀ b, s b → b < h.size

def Stars : List HP → (Nat → Prop) → Heap → Prop
  | [], s, _ => ∀ b, ¬ s b
  | A :: L, s, h => ∃ s1 s2, A.P s1 h ∧ Stars L s2 h ∧ (∀ b, s1 b → ¬ s2 b) ∧ ∀ b, s b ↔ (s1 b ∨ s2 b)

theorem Stars.loc : ∀ {L : List HP} {s : Nat → Prop} {h h' : Heap}, Stars L s h → (∀ b, s b → h'[b]? = h[b]?) → Stars L s h'
  | [], _, _, _, x, _ => x
  | _ :: _, _, _, _, ⟨s1, s2, a, l, d, u⟩, e => ⟨s1, s2, HP.loc _ a fun b hb => e b ((u b).2 (.inl hb)), Stars.loc l fun b hb => e b ((u b).2 (.inr hb)), d, u⟩
theorem Stars.dom : ∀ {L : List HP} {s : Nat → Prop} {h : Heap}, Stars L s h → ∀ b, s b → b < h.size
  | [], _, _, x, b, hb => (x b hb).elim
  | _ :: _, _, _, ⟨s1, s2, a, l, _, u⟩, b, hb => ((u b).1 hb).elim (HP.dom _ a b) (Stars.dom l b)
theorem Stars.perm {L L' : List HP} (p : L.Perm L') : ∀ {s : Nat → Prop} {h : Heap}, Stars L s h → Stars L' s h := by
  induction p with
  | nil => exact fun x => x
  | cons A _ ih => exact fun ⟨s1, s2, a, l, d, u⟩ => ⟨s1, s2, a, ih l, d, u⟩
  | swap A B L =>
    rintro s h ⟨s1, s2, a, ⟨s3, s4, b, l, d, u⟩, d', u'⟩
    refine ⟨s3, fun i => s1 i ∨ s4 i, b, ⟨s1, s4, a, l, fun i h1 h4 => d' i h1 ((u i).2 (.inr h4)), fun i => Iff.rfl⟩, fun i h3 h => ?_, fun i => ?_⟩
    · rcases h with h | h
      · exact d' i h ((u i).2 (.inl h3))
      · exact d i h3 h
    · rw [u' i, u i]
      exact ⟨fun h => h.elim (fun h => .inr (.inl h)) fun h => h.elim .inl fun h => .inr (.inr h), fun h => h.elim (fun h => .inr (.inl h)) fun h => h.elim .inl fun h => .inr (.inr h)⟩
  | trans _ _ i1 i2 => exact fun x => i2 (i1 x)
theorem Stars.append : ∀ {L M : List HP} {s t : Nat → Prop} {h : Heap}, Stars L s h → Stars M t h → (∀ b, s b → ¬ t b) → Stars (L ++ M) (fun b => s b ∨ t b) h
  | [], M, s, t, h, x, y, _ => by
    have : (fun b => s b ∨ t b) = t := funext fun b => propext ⟨fun z => z.elim (fun z => (x b z).elim) id, .inr⟩
    rw [this]; exact y
  | A :: L, M, s, t, h, ⟨s1, s2, a, l, d, u⟩, y, dis => by
    refine ⟨s1, fun b => s2 b ∨ t b, a, Stars.append l y fun b h2 => dis b ((u b).2 (.inr h2)), fun b h1 h => ?_, fun b => ?_⟩
    · rcases h with h | h
      · exact d b h1 h
      · exact dis b ((u b).2 (.inl h1)) h
    · show (s b ∨ t b) ↔ _
      rw [u b, or_assoc]
theorem Stars.split : ∀ {L M : List HP} {s : Nat → Prop} {h : Heap}, Stars (L ++ M) s h → ∃ s1 s2, Stars L s1 h ∧ Stars M s2 h ∧ (∀ b, s1 b → ¬ s2 b) ∧ ∀ b, s b ↔ (s1 b ∨ s2 b)
  | [], M, s, h, x => ⟨fun _ => False, s, fun _ h => h, x, fun _ h => h.elim, fun b => by simp⟩
  | A :: L, M, s, h, ⟨s1, s2, a, l, d, u⟩ => by
    obtain ⟨t1, t2, x, y, d', u'⟩ := Stars.split l
    refine ⟨fun b => s1 b ∨ t1 b, t2, ⟨s1, t1, a, x, fun b h1 h2 => d b h1 ((u' b).2 (.inl h2)), fun b => Iff.rfl⟩, y, fun b h1 h2 => ?_, fun b => ?_⟩
    · rcases h1 with h1 | h1
      · exact d b h1 ((u' b).2 (.inr h2))
      · exact d' b h1 h2
    · rw [u b, u' b, or_assoc]

/-- All predicates side by side, in blocks that are new since h0; what h0 had is as it was. -/
structure Sep (h0 : Heap) (L : List HP) (h : Heap) : Prop where
  ex : ∃ s, Stars L s h ∧ ∀ b, s b → h0.size ≤ b
  ext : Ext h0 h

section
variable {h0 h h' : Heap} {A B C D E : HP} {F L M : List HP}
theorem Sep.start (h : Heap) : Sep h [] h := ⟨⟨fun _ => False, fun _ h => h, fun _ h => h.elim⟩, Ext.refl h⟩
theorem Sep.perm (s : Sep h0 L h) (p : L.Perm M) : Sep h0 M h := ⟨let ⟨x, y, z⟩ := s.ex; ⟨x, y.perm p, z⟩, s.ext⟩
theorem Sep.b1 (s : Sep h0 (A :: B :: F) h) : Sep h0 (B :: A :: F) h := s.perm (.swap _ _ _)
theorem Sep.b2 (s : Sep h0 (A :: B :: C :: F) h) : Sep h0 (C :: A :: B :: F) h := s.perm (List.perm_middle (l₁ := [A, B]))
theorem Sep.b3 (s : Sep h0 (A :: B :: C :: D :: F) h) : Sep h0 (D :: A :: B :: C :: F) h := s.perm (List.perm_middle (l₁ := [A, B, C]))
theorem Sep.b4 (s : Sep h0 (A :: B :: C :: D :: E :: F) h) : Sep h0 (E :: A :: B :: C :: D :: F) h := s.perm (List.perm_middle (l₁ := [A, B, C, D]))
theorem Sep.b5 {G : HP} (s : Sep h0 (A :: B :: C :: D :: E :: G :: F) h) : Sep h0 (G :: A :: B :: C :: D :: E :: F) h := s.perm (List.perm_middle (l₁ := [A, B, C, D, E]))
theorem Sep.b6 {G I : HP} (s : Sep h0 (A :: B :: C :: D :: E :: G :: I :: F) h) : Sep h0 (I :: A :: B :: C :: D :: E :: G :: F) h := s.perm (List.perm_middle (l₁ := [A, B, C, D, E, G]))
/-! The first one goes behind so many. -/
theorem Sep.p2 (s : Sep h0 (A :: B :: C :: F) h) : Sep h0 (B :: C :: A :: F) h := s.perm (List.perm_middle (l₁ := [B, C])).symm
theorem Sep.p3 (s : Sep h0 (A :: B :: C :: D :: F) h) : Sep h0 (B :: C :: D :: A :: F) h := s.perm (List.perm_middle (l₁ := [B, C, D])).symm
theorem Sep.p4 (s : Sep h0 (A :: B :: C :: D :: E :: F) h) : Sep h0 (B :: C :: D :: E :: A :: F) h := s.perm (List.perm_middle (l₁ := [B, C, D, E])).symm
theorem Sep.tail (s : Sep h0 (A :: F) h) : Sep h0 F h :=
  ⟨let ⟨_, ⟨_, s2, _, l, _, u⟩, z⟩ := s.ex; ⟨s2, l, fun b hb => z b ((u b).2 (.inr hb))⟩, s.ext⟩
theorem Sep.tail2 (s : Sep h0 (A :: B :: F) h) : Sep h0 F h := s.tail.tail
theorem Sep.drop1 (s : Sep h0 (A :: B :: F) h) : Sep h0 (A :: F) h := s.b1.tail
theorem Sep.ext' (s : Sep h0 F h) (e : Ext h h') : Sep h0 F h' :=
  ⟨let ⟨x, y, z⟩ := s.ex; ⟨x, y.loc fun b hb => e.same b (y.dom b hb), z⟩, s.ext.trans e⟩
/-- One step: the first predicate alone changes. -/
theorem Sep.step (s : Sep h0 (A :: F) h) (hz : h.size ≤ h'.size) (H : ∀ t, A.P t h → (∃ t', B.P t' h' ∧ ∀ b, t' b → t b ∨ h.size ≤ b) ∧ ∀ i, i < h.size → ¬ t i → h'[i]? = h[i]?) : Sep h0 (B :: F) h' := by
  obtain ⟨⟨x, ⟨s1, s2, a, l, d, u⟩, z⟩, e⟩ := s
  obtain ⟨⟨t', hb, ht⟩, hs⟩ := H s1 a
  refine ⟨⟨fun b => t' b ∨ s2 b, ⟨t', s2, hb, l.loc fun b h2 => hs b (l.dom b h2) fun h1 => d b h1 h2, fun b h1 h2 => ?_, fun b => Iff.rfl⟩, fun b h1 => ?_⟩, Nat.le_trans e.size hz, fun i hi => ?_⟩
  · rcases ht b h1 with h3 | h3
    · exact d b h3 h2
    · have := l.dom b h2; omega
  · rcases h1 with h1 | h1
    · rcases ht b h1 with h3 | h3
      · exact z b ((u b).2 (.inl h3))
      · have := e.size; omega
    · exact z b ((u b).2 (.inr h1))
  · rw [hs i (Nat.lt_of_lt_of_le hi e.size) fun h1 => by have := z i ((u i).2 (.inl h1)); omega]
    exact e.same i hi
theorem Sep.conv (s : Sep h0 (A :: F) h) (H : ∀ t, A.P t h → B.P t h) : Sep h0 (B :: F) h :=
  s.step (Nat.le_refl _) fun t ht => ⟨⟨t, H t ht, fun _ => .inl⟩, fun _ _ _ => rfl⟩
theorem Sep.head (s : Sep h0 (A :: F) h) : ∃ t, A.P t h ∧ ∀ b, t b → h0.size ≤ b := let ⟨_, ⟨s1, _, a, _, _, u⟩, z⟩ := s.ex; ⟨s1, a, fun b hb => z b ((u b).2 (.inl hb))⟩
/-- The first predicate alone is changed: into any list of predicates, in its blocks and new ones. -/
theorem Sep.focus (s : Sep h0 (A :: F) h) : ∃ t, A.P t h ∧ (∀ b, t b → h0.size ≤ b) ∧ Ext h0 h ∧ ∀ (L : List HP) (t' : Nat → Prop) (h' : Heap), Stars L t' h' → (∀ i, t' i → t i ∨ h.size ≤ i) → h.size ≤ h'.size → (∀ i, i < h.size → ¬ t i → h'[i]? = h[i]?) → Sep h0 (L ++ F) h' := by
  obtain ⟨⟨x, ⟨s1, s2, a, l, d, u⟩, z⟩, e⟩ := s
  refine ⟨s1, a, fun b hb => z b ((u b).2 (.inl hb)), e, fun L t' h' hL ht hz hs => ⟨⟨_, Stars.append hL (l.loc fun b h2 => hs b (l.dom b h2) fun h1 => d b h1 h2) fun b h1 h2 => ?_, fun b h1 => ?_⟩, Nat.le_trans e.size hz, fun i hi => ?_⟩⟩
  · rcases ht b h1 with h3 | h3
    · exact d b h3 h2
    · have := l.dom b h2; omega
  · rcases h1 with h1 | h1
    · rcases ht b h1 with h3 | h3
      · exact z b ((u b).2 (.inl h3))
      · have := e.size; omega
    · exact z b ((u b).2 (.inr h1))
  · rw [hs i (Nat.lt_of_lt_of_le hi e.size) fun h1 => by have := z i ((u i).2 (.inl h1)); omega]
    exact e.same i hi
/-- What was made anew over h comes beside what is there. -/
theorem Sep.add (s : Sep h0 F h) (n : Sep h L h') : Sep h0 (L ++ F) h' := by
  obtain ⟨⟨x, l, z⟩, e⟩ := s
  obtain ⟨⟨y, m, q⟩, e'⟩ := n
  refine ⟨⟨_, Stars.append m (l.loc fun b hb => e'.same b (l.dom b hb)) fun b h1 h2 => ?_, fun b h => ?_⟩, e.trans e'⟩
  · have := q b h1; have := l.dom b h2; omega
  · rcases h with h | h
    · have := q b h; have := e.size; omega
    · exact z b h
theorem Sep.add1 (s : Sep h0 F h) (n : Sep h [A] h') : Sep h0 (A :: F) h' := s.add n
theorem Sep.add2 (s : Sep h0 F h) (n : Sep h [A, B] h') : Sep h0 (A :: B :: F) h' := s.add n
theorem Sep.add0 (s : Sep h0 F h) (n : Sep h [] h') : Sep h0 F h' := s.add n
/-- A part alone, over the heap that it is in. -/
theorem Sep.one (s : Sep h0 (A :: F) h) : Sep h0 [A] h :=
  ⟨let ⟨_, ⟨s1, _, a, _, _, u⟩, z⟩ := s.ex; ⟨s1, ⟨s1, fun _ => False, a, fun _ h => h, fun _ _ h => h, fun b => by simp⟩, fun b hb => z b ((u b).2 (.inl hb))⟩, s.ext⟩
end

/-! ### Some of them, in another order -/
theorem Stars.fn : ∀ {L : List HP} {s : Nat → Prop} {h : Heap}, Stars L s h → ∃ f : Nat → Nat → Prop, (∀ (i : Nat) (A : HP), L[i]? = some A → A.P (f i) h) ∧ (∀ i j b, i < L.length → j < L.length → i ≠ j → f i b → ¬ f j b) ∧ ∀ i b, i < L.length → f i b → s b
  | [], s, h, _ => ⟨fun _ _ => False, fun i A hi => by simp at hi, fun i j b hi => by simp at hi, fun i b hi => by simp at hi⟩
  | A :: L, s, h, ⟨s1, s2, a, l, d, u⟩ => by
    obtain ⟨f, h1, h2, h3⟩ := Stars.fn l
    refine ⟨fun i => match i with | 0 => s1 | i + 1 => f i, fun i B hi => ?_, fun i j b hi hj hne x y => ?_, fun i b hi x => ?_⟩
    · cases i with
      | zero => simp at hi; subst hi; exact a
      | succ i => exact h1 i B (by simpa using hi)
    · cases i with
      | zero => cases j with
        | zero => exact hne rfl
        | succ j => exact d b x (h3 j b (by simpa using hj) y)
      | succ i => cases j with
        | zero => exact d b y (h3 i b (by simpa using hi) x)
        | succ j => exact h2 i j b (by simpa using hi) (by simpa using hj) (fun e => hne (by rw [e])) x y
    · cases i with
      | zero => exact (u b).2 (.inl x)
      | succ i => exact (u b).2 (.inr (h3 i b (by simpa using hi) x))
theorem Stars.of_fn : ∀ (M : List HP) (h : Heap) (f : Nat → Nat → Prop), (∀ (i : Nat) (A : HP), M[i]? = some A → A.P (f i) h) → (∀ i j b, i < M.length → j < M.length → i ≠ j → f i b → ¬ f j b) → Stars M (fun b => ∃ i, i < M.length ∧ f i b) h
  | [], h, f, _, _ => fun b ⟨i, hi, _⟩ => by simp at hi
  | A :: M, h, f, h1, h2 => by
    have ih := Stars.of_fn M h (fun i => f (i + 1)) (fun i B hi => h1 (i + 1) B (by simpa using hi)) fun i j b hi hj hne => h2 (i + 1) (j + 1) b (by simpa using hi) (by simpa using hj) (by omega)
    refine ⟨f 0, _, h1 0 A rfl, ih, fun b x ⟨i, hi, y⟩ => h2 0 (i + 1) b (by simp) (by simpa using hi) (by omega) x y, fun b => ⟨fun ⟨i, hi, x⟩ => ?_, fun x => ?_⟩⟩
    · cases i with
      | zero => exact .inl x
      | succ i => exact .inr ⟨i, by simpa using hi, x⟩
    · rcases x with x | ⟨i, hi, x⟩
      · exact ⟨0, by simp, x⟩
      · exact ⟨i + 1, by simpa using hi, x⟩
def HP.emp : HP := ⟨fun s _ => ∀ b, ¬ s b, fun x _ => x, fun x b hb => (x b hb).elim⟩
def selB (n : Nat) : List Nat → Bool
  | [] => true
  | i :: r => decide (i < n) && !r.contains i && selB n r
theorem selB_spec {n : Nat} : ∀ {l : List Nat}, selB n l = true → (∀ (i x : Nat), l[i]? = some x → x < n) ∧ ∀ (i j x : Nat), l[i]? = some x → l[j]? = some x → i = j
  | [], _ => ⟨fun i x h => by simp at h, fun i j x h => by simp at h⟩
  | y :: l, h => by
    simp only [selB, Bool.and_eq_true, decide_eq_true_eq, Bool.not_eq_true', List.contains_eq_mem, decide_eq_false_iff_not] at h
    obtain ⟨⟨h1, h2⟩, h3⟩ := h
    obtain ⟨g1, g2⟩ := selB_spec h3
    refine ⟨fun i x hi => ?_, fun i j x hi hj => ?_⟩
    · cases i with
      | zero => simp at hi; omega
      | succ i => exact g1 i x (by simpa using hi)
    · cases i with
      | zero => cases j with
        | zero => rfl
        | succ j => simp at hi hj; subst hi; exact (h2 (List.mem_of_getElem? hj)).elim
      | succ i => cases j with
        | zero => simp at hi hj; subst hj; exact (h2 (List.mem_of_getElem? hi)).elim
        | succ j => rw [g2 i j x (by simpa using hi) (by simpa using hj)]
/-- Those of these places, in this order. -/
theorem Sep.sel {h0 h : Heap} {L : List HP} (s : Sep h0 L h) (idx : List Nat) (hi : selB L.length idx = true) : Sep h0 (idx.map fun i => L.getD i HP.emp) h := by
  obtain ⟨⟨x, l, z⟩, e⟩ := s
  obtain ⟨f, h1, h2, h3⟩ := l.fn
  obtain ⟨g1, g2⟩ := selB_spec hi
  have len : ∀ i, i < (idx.map fun i => L.getD i HP.emp).length → i < idx.length := fun i h => by simpa using h
  refine ⟨⟨_, Stars.of_fn _ h (fun i => f (idx.getD i 0)) (fun i A hA => ?_) fun i j b hi hj hne x y => ?_, fun b ⟨i, hi, x⟩ => ?_⟩, e⟩
  · rw [List.getElem?_map] at hA
    cases hx : idx[i]? with
    | none => rw [hx] at hA; cases hA
    | some q =>
      rw [hx] at hA
      simp only [Option.map_some, Option.some.injEq] at hA
      have hq := g1 i q hx
      have : f (idx.getD i 0) = f q := by simp [List.getD, hx]
      rw [this, ← hA]
      have hL : L.getD q HP.emp = L[q] := by simp [List.getD, hq]
      rw [hL]
      exact h1 q _ (List.getElem?_eq_getElem hq)
  · have hi := len i hi
    have hj := len j hj
    have e1 : idx.getD i 0 = idx[i] := by simp [List.getD, hi]
    have e2 : idx.getD j 0 = idx[j] := by simp [List.getD, hj]
    rw [e1] at x
    rw [e2] at y
    exact h2 _ _ b (g1 i _ (List.getElem?_eq_getElem hi)) (g1 j _ (List.getElem?_eq_getElem hj)) (fun e => hne (g2 i j _ (List.getElem?_eq_getElem hi) (by rw [e]; exact List.getElem?_eq_getElem hj))) x y
  · have hi := len i hi
    have e1 : idx.getD i 0 = idx[i] := by simp [List.getD, hi]
    rw [e1] at x
    exact z b (h3 _ b (g1 i _ (List.getElem?_eq_getElem hi)) x)

/-! ### Making predicates -/
def HP.ex {α : Type} (A : α → HP) : HP where
  P s h := ∃ x, (A x).P s h
  loc := fun ⟨x, p⟩ e => ⟨x, (A x).loc p e⟩
  dom := fun ⟨x, p⟩ => (A x).dom p
def HP.all (L : List HP) : HP where
  P s h := Stars L s h
  loc p e := p.loc e
  dom p := p.dom
def HP.fact (p : Prop) (A : HP) : HP where
  P s h := p ∧ A.P s h
  loc := fun ⟨x, p⟩ e => ⟨x, A.loc p e⟩
  dom := fun ⟨_, p⟩ => A.dom p
def Blk (b : Nat) (c : Array Value) (t : TypeId) : HP where
  P s h := (∀ i, s i ↔ i = b) ∧ h.has b c t
  loc := fun ⟨x, p⟩ e => ⟨x, by unfold Heap.has; rw [e b ((x b).2 rfl)]; exact p⟩
  dom := fun ⟨x, p⟩ i hi => by rw [(x i).1 hi]; exact p.lt
def Sl {α : Type} (enc : α → List Value) (sz : Nat) (v : Value) (l : List α) : HP where
  P s h := ∃ k, Own enc sz h k v l ∧ ∀ i, s i ↔ some i = k
  loc := fun ⟨k, o, x⟩ e => ⟨k, o.keep fun b hb => e b ((x b).2 hb.symm), x⟩
  dom := fun ⟨k, o, x⟩ i hi => o.lt ((x i).1 hi).symm

section
variable {h0 h h' : Heap} {A B : HP} {F L : List HP}
theorem Sep.open_ex {α : Type} {A : α → HP} (s : Sep h0 (HP.ex A :: F) h) : ∃ x, Sep h0 (A x :: F) h := by
  obtain ⟨⟨x, ⟨s1, s2, ⟨y, a⟩, l, d, u⟩, z⟩, e⟩ := s
  exact ⟨y, ⟨⟨x, ⟨s1, s2, a, l, d, u⟩, z⟩, e⟩⟩
theorem Sep.shut_ex {α : Type} {A : α → HP} (x : α) (s : Sep h0 (A x :: F) h) : Sep h0 (HP.ex A :: F) h := s.conv fun _ p => ⟨x, p⟩
theorem Sep.open_all (s : Sep h0 (HP.all L :: F) h) : Sep h0 (L ++ F) h := by
  obtain ⟨⟨x, ⟨s1, s2, a, l, d, u⟩, z⟩, e⟩ := s
  exact ⟨⟨_, Stars.append a l d, fun b hb => z b ((u b).2 hb)⟩, e⟩
theorem Sep.shut_all (s : Sep h0 (L ++ F) h) : Sep h0 (HP.all L :: F) h := by
  obtain ⟨⟨x, l, z⟩, e⟩ := s
  obtain ⟨s1, s2, a, m, d, u⟩ := l.split
  exact ⟨⟨x, ⟨s1, s2, a, m, d, u⟩, z⟩, e⟩
/-- The first of many, and one more at their end. -/
theorem Sep.pop (s : Sep h0 (HP.all (A :: L) :: F) h) : Sep h0 (A :: HP.all L :: F) h := (s.open_all.perm List.perm_middle.symm).shut_all.b1
theorem Sep.push (s : Sep h0 (HP.all L :: A :: F) h) : Sep h0 (HP.all (L ++ [A]) :: F) h := Sep.shut_all (by rw [List.append_assoc]; exact s.open_all)
theorem Sep.unpop (s : Sep h0 (A :: HP.all L :: F) h) : Sep h0 (HP.all (A :: L) :: F) h := Sep.shut_all (s.b1.open_all.perm List.perm_middle)
theorem Sep.open_fact {p : Prop} (s : Sep h0 (HP.fact p A :: F) h) : p ∧ Sep h0 (A :: F) h := ⟨let ⟨_, x, _⟩ := s.head; x.1, s.conv fun _ x => x.2⟩
theorem Sep.shut_fact {p : Prop} (hp : p) (s : Sep h0 (A :: F) h) : Sep h0 (HP.fact p A :: F) h := s.conv fun _ x => ⟨hp, x⟩
end

/-! ### Blocks -/
section
variable {h0 h : Heap} {F : List HP} {b o t n : Nat} {c : Array Value}
theorem Sep.has (s : Sep h0 (Blk b c t :: F) h) : h.has b c t := let ⟨_, x, _⟩ := s.head; x.2
theorem Sep.ld {v : Value} {K : Value → Prop} (s : Sep h0 (Blk b c t :: F) h) (hv : c[o]? = some v) : sLd h (ptr b o) K = K v := ev_ld_has s.has hv
theorem Sep.ldn {K : Value → Prop} (s : Sep h0 (Blk b c t :: F) h) (ho : o + n ≤ c.size) : sLdN h (ptr b o) n K = K (.agg (c.extract o (o + n))) := ev_ldn_has s.has ho
theorem Sep.ldall {K : Value → Prop} (s : Sep h0 (Blk b c t :: F) h) (hn : c.size = n) : sLdN h (ptr b 0) n K = K (.agg c) := ev_ldn_all s.has hn
theorem Sep.upd (s : Sep h0 (Blk b c t :: F) h) (c' : Array Value) : Sep h0 (Blk b c' t :: F) (h.upd b c' t) :=
  s.step (by rw [Heap.size_upd]; exact Nat.le_refl _) fun t' ht => ⟨⟨t', ⟨ht.1, Heap.has_upd ht.2.lt _ _⟩, fun _ => .inl⟩, fun i _ hn => by
    unfold Heap.upd; rw [Array.getElem?_setIfInBounds_ne fun e => hn ((ht.1 i).2 e.symm)]⟩
theorem Sep.st {v : Value} {K : Heap → Prop} (s : Sep h0 (Blk b c t :: F) h) (ho : o < c.size) (h3 : Cell1 v) (H : ∀ h', Sep h0 (Blk b (c.setIfInBounds o v) t :: F) h' → K h') : sSt h (ptr b o) v K := by
  rw [ev_st_has s.has ho h3]; exact H _ (s.upd _)
theorem Sep.stn {cs : Array Value} {K : Heap → Prop} (s : Sep h0 (Blk b c t :: F) h) (hs : cs.size = n) (ho : o + n ≤ c.size) (h1 : ∀ u ∈ cs.toList, Cell1 u) (H : ∀ h', Sep h0 (Blk b (putRow c o cs.toList) t :: F) h' → K h') : sStN h (ptr b o) (.agg cs) n K := by
  rw [ev_stn_has s.has hs ho h1]; exact H _ (s.upd _)
theorem Sep.stall {cs : Array Value} {K : Heap → Prop} (s : Sep h0 (Blk b c t :: F) h) (hs : cs.size = n) (hn : c.size = n) (h1 : ∀ u ∈ cs.toList, Cell1 u) (H : ∀ h', Sep h0 (Blk b cs t :: F) h' → K h') : sStN h (ptr b 0) (.agg cs) n K := by
  rw [ev_stn_all s.has hs hn h1]; exact H _ (s.upd _)
theorem sep_push (h : Heap) (c : Array Value) (t : TypeId) : Sep h [Blk h.size c t] (h.push (.cells c t)) :=
  ⟨⟨fun i => i = h.size, ⟨fun i => i = h.size, fun _ => False, ⟨fun _ => Iff.rfl, Heap.has_new _ _⟩, fun _ h => h, fun _ _ h => h, fun b => by simp⟩, fun b hb => by omega⟩, (Ext.refl h).push⟩
theorem Sep.new {z : Array Value} {K : Value → Heap → Prop} (s : Sep h0 F h) (H : ∀ b h', Sep h0 (Blk b z t :: F) h' → K (ptr b 0) h') : sNew h z t K := H _ _ (s.add1 (sep_push h z t))
theorem Sep.box {x : Value} {K : Value → Heap → Prop} (s : Sep h0 F h) (hc : x.cells = c) (H : ∀ b h', Sep h0 (Blk b c t :: F) h' → K (ptr b 0) h') : sBox h x t K := by
  subst hc; exact H _ _ (s.add1 (sep_push h _ t))
end

/-! ### Slices -/
theorem own_cell {α : Type} {enc : α → List Value} {sz : Nat} {h : Heap} {k : Option Nat} {v : Value} {l : List α} (o : Own enc sz h k v l) : Cell1 v := by
  rcases o with ⟨_, rfl, _⟩ | ⟨_, _, _, _, _, _, _, rfl, _⟩ <;> trivial
theorem seq_cell {α : Type} {enc : α → List Value} {sz : Nat} {h : Heap} {v : Value} {l : List α} (o : Seq enc sz h v l) : Cell1 v := by
  obtain ⟨_, _, _, rfl, _⟩ := o; trivial
/-- Where element j of a slice lies. -/
def eltP : Value → Nat → Nat → Value
  | .slice (some a) _ _, j, sz => ptr a.block (a.off + j * sz)
  | _, _, _ => undef
/-- A slice of a slice. -/
def cutP : Value → Nat → Nat → Nat → Value
  | .slice a _ c, i, j, sz => cutV a i j c sz
  | v, _, _, _ => v

section
variable {α : Type} {enc : α → List Value} {sz : Nat} {h0 h : Heap} {F : List HP} {v : Value} {l : List α}
theorem Sep.own (s : Sep h0 (Sl enc sz v l :: F) h) : ∃ k, Own enc sz h k v l := let ⟨_, ⟨k, o, _⟩, _⟩ := s.head; ⟨k, o⟩
theorem Sep.seq (s : Sep h0 (Sl enc sz v l :: F) h) : Seq enc sz h v l := let ⟨_, o⟩ := s.own; o.seq
theorem Sep.cell (s : Sep h0 (Sl enc sz v l :: F) h) : Cell1 v := seq_cell s.seq
theorem Seq.elt {K : Value → Prop} (a : Seq enc sz h v l) {j : Nat} (hj : j < l.length) (q : IntKind) : sIxS v (.int q j) sz K = K (eltP v j sz) := by
  obtain ⟨a, n, m, rfl, hn, hm, h2 | ⟨b, o, rfl, hb, hc⟩⟩ := a
  · omega
  · rw [ev_ixs (by omega) (by omega)]; rfl
theorem Seq.eltn {K : Value → Prop} (a : Seq enc sz h v l) {j : Nat} {x : α} (hj : l[j]? = some x) (hs : (enc x).length = sz) : sLdN h (eltP v j sz) sz K = K (.agg (enc x).toArray) := by
  have := a.ldn (K := K) hj hs .i64
  rw [a.elt (List.getElem?_eq_some_iff.1 hj).1] at this; exact this
theorem Seq.elt1 {K : Value → Prop} (a : Seq enc sz h v l) {j i : Nat} {x : α} {u : Value} (hj : l[j]? = some x) (hu : (enc x)[i]? = some u) : ∃ b o, eltP v j sz = ptr b o ∧ sLd h (ptr b (o + i)) K = K u := by
  have hlt := (List.getElem?_eq_some_iff.1 hj).1
  obtain ⟨a, n, m, rfl, hn, hm, h2 | ⟨b, o, rfl, hb, hc⟩⟩ := a
  · omega
  · exact ⟨b, o + j * sz, rfl, (hc j x hj).ld hu⟩
theorem Seq.eltld {K : Value → Prop} (a : Seq enc sz h v l) {j i : Nat} {x : α} {u : Value} (hj : l[j]? = some x) (hu : (enc x)[i]? = some u) : sOff (eltP v j sz) i (fun p => sLd h p K) = K u := by
  obtain ⟨b, o, e, h1⟩ := a.elt1 (K := K) hj hu
  rw [e, ev_off, h1]
theorem Seq.eltld0 {K : Value → Prop} (a : Seq enc sz h v l) {j : Nat} {x : α} {u : Value} (hj : l[j]? = some x) (hu : (enc x)[0]? = some u) : sLd h (eltP v j sz) K = K u := by
  obtain ⟨b, o, e, h1⟩ := a.elt1 (K := K) hj hu
  rw [e]; exact h1
theorem Seq.cutP (a : Seq enc sz h v l) {i j : Nat} (hi : i ≤ j) (hj : j ≤ l.length) : Seq enc sz h (cutP v i j sz) ((l.take j).drop i) := by
  obtain ⟨v', q, H⟩ := a.cut hi hj
  obtain ⟨a, n, m, rfl, hn, hm, hd⟩ := a
  have e : HW.cutP (.slice a n m) i j sz = v' := by
    obtain ⟨_, _, _, _, _, e, h1, h2, _, _, e3⟩ := H (some (.int .i64 i)) (some (.int .i64 j)) (fun x => x = v') ⟨.i64, rfl⟩ ⟨.i64, rfl⟩ rfl
    cases e
    obtain ⟨_, h1⟩ := h1
    obtain ⟨_, h2⟩ := h2
    simp only [Value.int.injEq] at h1 h2
    have e1 := Int.ofNat.inj h1.2
    have e2 := Int.ofNat.inj h2.2
    subst e1 e2
    exact e3
  rw [e]; exact q
theorem Seq.slK {K : Value → Prop} (a : Seq enc sz h v l) {i j : Nat} (hi : i ≤ j) (hj : j ≤ l.length) {lo hi' : Option Value} (h1 : bnd lo 0 i) (h2 : bnd hi' l.length j) (H : K (HW.cutP v i j sz)) : sSl v lo hi' sz K := by
  obtain ⟨a, n, m, rfl, hn, hm, hd⟩ := a
  subst hn
  exact ⟨a, _, m, i, j, rfl, h1, h2, hi, by omega, H⟩
theorem Own.cutP {k : Option Nat} (a : Own enc sz h k v l) {i j : Nat} (hi : i ≤ j) (hj : j ≤ l.length) : Own enc sz h k (HW.cutP v i j sz) ((l.take j).drop i) := by
  obtain ⟨v', q, H⟩ := a.cut hi hj
  obtain ⟨d, n, m, rfl, hn, hm, hd⟩ := a.seq
  have e : HW.cutP (.slice d n m) i j sz = v' := by
    obtain ⟨_, _, _, _, _, e, h1, h2, _, _, e3⟩ := H (some (.int .i64 i)) (some (.int .i64 j)) (fun x => x = v') ⟨.i64, rfl⟩ ⟨.i64, rfl⟩ rfl
    cases e
    obtain ⟨_, h1⟩ := h1
    obtain ⟨_, h2⟩ := h2
    simp only [Value.int.injEq] at h1 h2
    have e1 := Int.ofNat.inj h1.2
    have e2 := Int.ofNat.inj h2.2
    subst e1 e2
    exact e3
  rw [e]; exact q
theorem Sep.cut (s : Sep h0 (Sl enc sz v l :: F) h) {i j : Nat} (hi : i ≤ j) (hj : j ≤ l.length) : Sep h0 (Sl enc sz (HW.cutP v i j sz) ((l.take j).drop i) :: F) h :=
  s.conv fun _ ⟨k, o, x⟩ => ⟨k, o.cutP hi hj, x⟩
theorem Sep.cutl (s : Sep h0 (Sl enc sz v l :: F) h) {i : Nat} (hi : i ≤ l.length) : Sep h0 (Sl enc sz (HW.cutP v i l.length sz) (l.drop i) :: F) h := by
  have := s.cut hi (Nat.le_refl _); rwa [List.take_length] at this
theorem Sep.cutr (s : Sep h0 (Sl enc sz v l :: F) h) {j : Nat} (hj : j ≤ l.length) : Sep h0 (Sl enc sz (HW.cutP v 0 j sz) (l.take j) :: F) h := s.cut (Nat.zero_le _) hj
theorem sep_nil (s : Sep h0 F h) : Sep h0 (Sl enc sz (.slice none 0 0) [] :: F) h :=
  s.add1 (A := Sl enc sz (.slice none 0 0) []) ⟨⟨fun _ => False, ⟨fun _ => False, fun _ => False, ⟨none, .nil, fun _ => by simp⟩, fun _ h => h, fun _ _ h => h, fun b => by simp⟩, fun _ h => h.elim⟩, Ext.refl h⟩
theorem Sep.app {bytes e : Nat} {z : Array Value} {w : Value} {r : List α} {K : Value → Heap → Prop} (s : Sep h0 (Sl enc sz v l :: F) h) (hz : z.size = sz) (hp : 0 < sz) (hs : ∀ x, (enc x).length = sz) (h1 : ∀ x, ∀ u ∈ enc x, Cell1 u) (q : Seq enc sz h w r)
    (hb : (l.length + r.length) * bytes ≤ 2 ^ 40) (hb0 : 0 < bytes) (H : ∀ v' h', Cell1 v' → Sep h0 (Sl enc sz v' (l ++ r) :: F) h' → K v' h') : sApp h v w z e bytes K := by
  obtain ⟨⟨x, ⟨s1, s2, ⟨k, o, hk⟩, m, d, u⟩, y⟩, ex⟩ := s
  refine app_intro hz hp hs h1 o q hb hb0 (fun k' v' h' o' hk' c => H v' h' (own_cell o') (Sep.step (A := Sl enc sz v l) ⟨⟨x, ⟨s1, s2, ⟨k, o, hk⟩, m, d, u⟩, y⟩, ex⟩ c.size fun t ⟨k2, o2, hk2⟩ => ?_))
  have : k2 = k := by
    rcases o with ⟨rfl, rfl, rfl⟩ | ⟨b, p, n, m, c, t, rfl, rfl, _⟩ <;> rcases o2 with ⟨rfl, e, _⟩ | ⟨b, p, n, m, c, t, rfl, e, _⟩ <;> first | rfl | cases e <;> rfl
  subst this
  refine ⟨⟨fun i => some i = k', ⟨k', o', fun _ => Iff.rfl⟩, fun b hb => ?_⟩, fun i hi hn => c.same i hi fun e => hn ((hk2 i).2 e)⟩
  rcases hk' with e | e
  · exact .inl ((hk2 b).2 (hb.trans e))
  · rw [e] at hb; cases hb; exact .inr (Nat.le_refl _)
/-- Element j of an own slice is set. -/
theorem Own.put {k : Option Nat} (o : Own enc sz h k v l) (hs : ∀ x, (enc x).length = sz) {j : Nat} (hj : j < l.length) (x : α) : ∃ b p c t, k = some b ∧ eltP v j sz = ptr b p ∧ h.has b c t ∧ p + sz ≤ c.size ∧ ∀ h', h'.has b (putRow c p (enc x)) t → Own enc sz h' k v (l.set j x) := by
  rcases o with ⟨rfl, rfl, rfl⟩ | ⟨b, p, n, m, c, t, rfl, rfl, hn, hm, hb, hc, hcc⟩
  · simp at hj
  · have hm1 : (j + 1) * sz ≤ m * sz := Nat.mul_le_mul_right _ (by omega)
    rw [Nat.add_mul, Nat.one_mul] at hm1
    refine ⟨b, p + j * sz, c, t, rfl, rfl, hb, by omega, fun h' hh => .inr ⟨b, p, n, m, _, t, rfl, rfl, by simp [hn], hm, hh, by rw [size_putRow]; exact hc, fun q y hq i u hu => ?_⟩⟩
    have hi : i < sz := by have := (List.getElem?_eq_some_iff.1 hu).1; rw [hs] at this; exact this
    have hq' := (List.getElem?_eq_some_iff.1 hq).1
    simp at hq'
    have hq1 : (q + 1) * sz ≤ m * sz := Nat.mul_le_mul_right _ (by omega)
    rw [Nat.add_mul, Nat.one_mul] at hq1
    by_cases e : q = j
    · subst e
      rw [List.getElem?_set_self hj] at hq
      cases hq
      rw [get_putRow _ _ _ _ (by rw [hs]; exact hi) (by rw [hs]; omega)]; exact hu
    · rw [List.getElem?_set_ne (Ne.symm e)] at hq
      rw [← hcc q y hq i u hu]
      by_cases e2 : q < j
      · have : (q + 1) * sz ≤ j * sz := Nat.mul_le_mul_right _ (by omega)
        rw [Nat.add_mul, Nat.one_mul] at this
        exact get_putRow_lt _ _ _ _ (by omega)
      · have : (j + 1) * sz ≤ q * sz := Nat.mul_le_mul_right _ (by omega)
        rw [Nat.add_mul, Nat.one_mul] at this
        exact get_putRow_ge _ _ _ _ (by rw [hs]; omega)
theorem Sep.setn {K : Heap → Prop} (s : Sep h0 (Sl enc sz v l :: F) h) (hs : ∀ x, (enc x).length = sz) (h1 : ∀ x, ∀ u ∈ enc x, Cell1 u) {j : Nat} (hj : j < l.length) (x : α) (H : ∀ h', Sep h0 (Sl enc sz v (l.set j x) :: F) h' → K h') : sStN h (eltP v j sz) (.agg (enc x).toArray) sz K := by
  obtain ⟨_, ⟨k, o, hk⟩, _⟩ := s.head
  obtain ⟨b, p, c, t, rfl, e, hb, hp, hput⟩ := o.put hs hj x
  rw [e, ev_stn_has hb (by simp [hs]) hp (by simpa using h1 x)]
  refine H _ (s.step (by rw [Heap.size_upd]; exact Nat.le_refl _) fun t' ⟨k2, o2, hk2⟩ => ?_)
  have : k2 = some b := by
    rcases o with ⟨h, _⟩ | ⟨b, p, n, m, c, t, e1, rfl, _⟩
    · cases h
    · rcases o2 with ⟨_, e, _⟩ | ⟨b', p, n, m, c, t, e2, e, _⟩
      · cases e
      · cases e; rw [e2, e1]
  subst this
  refine ⟨⟨t', ⟨some b, hput _ (Heap.has_upd hb.lt _ _), hk2⟩, fun _ => .inl⟩, fun i _ hn => ?_⟩
  unfold Heap.upd
  rw [Array.getElem?_setIfInBounds_ne fun e => hn ((hk2 i).2 (by rw [e]))]
theorem Sep.set1 {u : Value} {K : Heap → Prop} (s : Sep h0 (Sl enc 1 v l :: F) h) (hs : ∀ x, (enc x).length = 1) {j : Nat} (hj : j < l.length) (x : α) (hu : enc x = [u]) (hc : Cell1 u) (H : ∀ h', Sep h0 (Sl enc 1 v (l.set j x) :: F) h' → K h') : sSt h (eltP v j 1) u K := by
  obtain ⟨_, ⟨k, o, hk⟩, _⟩ := s.head
  obtain ⟨b, p, c, t, rfl, e, hb, hp, hput⟩ := o.put hs hj x
  rw [hu] at hput
  rw [e, ev_st_has hb (by omega) hc]
  refine H _ (s.step (by rw [Heap.size_upd]; exact Nat.le_refl _) fun t' ⟨k2, o2, hk2⟩ => ?_)
  have : k2 = some b := by
    rcases o with ⟨h, _⟩ | ⟨b, p, n, m, c, t, e1, rfl, _⟩
    · cases h
    · rcases o2 with ⟨_, e, _⟩ | ⟨b', p, n, m, c, t, e2, e, _⟩
      · cases e
      · cases e; rw [e2, e1]
  subst this
  refine ⟨⟨t', ⟨some b, hput _ (Heap.has_upd hb.lt _ _), hk2⟩, fun _ => .inl⟩, fun i _ hn => ?_⟩
  unfold Heap.upd
  rw [Array.getElem?_setIfInBounds_ne fun e => hn ((hk2 i).2 (by rw [e]))]
/-- One cell of element j is set: the element is another one. -/
theorem Sep.setc {u : Value} {K : Heap → Prop} (s : Sep h0 (Sl enc sz v l :: F) h) (hs : ∀ x, (enc x).length = sz) {j i : Nat} {x : α} (hj : l[j]? = some x) (y : α) (hi : i < sz) (hy : enc y = (enc x).set i u) (hc : Cell1 u) (H : ∀ h', Sep h0 (Sl enc sz v (l.set j y) :: F) h' → K h') : sOff (eltP v j sz) i (fun p => sSt h p u K) := by
  have hlt := (List.getElem?_eq_some_iff.1 hj).1
  obtain ⟨_, ⟨k, o, hk⟩, _⟩ := s.head
  have hx : (enc x).length = sz := hs x
  obtain ⟨b, p, c, t, rfl, e, hb, hp, hput⟩ := o.put hs hlt y
  rw [e, ev_off, ev_st_has hb (by omega) hc]
  have hcell : ∀ i u, (enc x)[i]? = some u → c[p + i]? = some u := by
    rcases o with ⟨h, _⟩ | ⟨b', p', n, m, c', t', e1, rfl, _, _, hb', _, hc'⟩
    · cases h
    · cases e1
      have e1 := hb.symm.trans hb'
      cases e1
      simp [eltP] at e
      subst e
      exact hc' j x hj
  have hrow : putRow c p (enc y) = c.setIfInBounds (p + i) u := by
    apply Array.ext_getElem?
    intro q
    have hyl : (enc y).length = sz := hs y
    by_cases q1 : q < p
    · rw [get_putRow_lt _ _ _ _ q1, Array.getElem?_setIfInBounds_ne (by omega)]
    · by_cases q2 : q < p + sz
      · obtain ⟨d, rfl⟩ : ∃ d, q = p + d := ⟨q - p, by omega⟩
        rw [get_putRow _ _ _ _ (by omega) (by omega), hy]
        by_cases q3 : d = i
        · subst q3
          rw [List.getElem?_set_self (by omega), Array.getElem?_setIfInBounds_self_of_lt (by omega)]
        · rw [List.getElem?_set_ne (Ne.symm q3), Array.getElem?_setIfInBounds_ne (by omega)]
          have hd : d < (enc x).length := by omega
          rw [List.getElem?_eq_getElem hd]
          exact (hcell d _ (List.getElem?_eq_getElem hd)).symm
      · rw [get_putRow_ge _ _ _ _ (by omega), Array.getElem?_setIfInBounds_ne (by omega)]
  refine H _ (s.step (by rw [Heap.size_upd]; exact Nat.le_refl _) fun t' ⟨k2, o2, hk2⟩ => ?_)
  have : k2 = some b := by
    rcases o with ⟨h, _⟩ | ⟨b, p, n, m, c, t, e1, rfl, _⟩
    · cases h
    · rcases o2 with ⟨_, e, _⟩ | ⟨b', p, n, m, c, t, e2, e, _⟩
      · cases e
      · cases e; rw [e2, e1]
  subst this
  refine ⟨⟨t', ⟨some b, hput _ (by rw [hrow]; exact Heap.has_upd hb.lt _ _), hk2⟩, fun _ => .inl⟩, fun i _ hn => ?_⟩
  unfold Heap.upd
  rw [Array.getElem?_setIfInBounds_ne fun e => hn ((hk2 i).2 (by rw [e]))]
theorem sep_own {k : Option Nat} {h' : Heap} (e : Ext h h') (o : Own enc sz h' k v l) (hk : ∀ b, k = some b → h.size ≤ b) : Sep h [Sl enc sz v l] h' :=
  ⟨⟨fun i => some i = k, ⟨_, _, ⟨k, o, fun _ => Iff.rfl⟩, fun _ h => h, fun _ _ h => h, fun b => by simp⟩, fun b hb => hk b hb.symm⟩, e⟩
theorem Sep.slit {z : Array Value} {t n : Nat} {ps : List (Nat × Nat × Value)} {K : Value → Heap → Prop} (s : Sep h0 F h) (hs : ∀ x, (enc x).length = sz) (l : List α) (hn : l.length = n)
    (hf : sFill z ps fun cs => cs = (l.flatMap enc).toArray) (H : ∀ v h', Cell1 v → Sep h0 (Sl enc sz v l :: F) h' → K v h') : sSlit h z ps t n K :=
  slit_intro hs l hn hf fun b v h' hb e o => H v h' (own_cell o) (s.add1 (sep_own e o fun _ e => by cases e; exact hb))
theorem Sep.make {z : Array Value} {e bytes : Nat} {p q : IntKind} {a b : Int} {K : Value → Heap → Prop} (s : Sep h0 F h) (hs : ∀ x, (enc x).length = sz) (x : α) (hz : z = (enc x).toArray) (n m : Nat) (ha : a = n) (hb : b = m) (hnm : n ≤ m) (h1 : bytes * m ≤ 2 ^ 40) (h2 : m ≤ 2 ^ 40)
    (H : ∀ v h', Cell1 v → Sep h0 (Sl enc sz v (List.replicate n x) :: F) h' → K v h') : sMk h (.int p a) (.int q b) z e bytes K := by
  subst ha hb hz
  refine ⟨p, q, n, m, rfl, rfl, by omega, by omega, by exact_mod_cast h1, by exact_mod_cast h2, ?_⟩
  have hc : Builtin.zeroCells (enc x).toArray m = ((List.replicate m x).flatMap enc).toArray := by
    have hx := hs x
    apply Array.ext_getElem?
    intro i
    have hfl : ((List.replicate m x).flatMap enc).length = m * sz := by rw [length_flat hs, List.length_replicate]
    by_cases hi : i < m * sz
    · have hz : 0 < sz := by rcases Nat.eq_zero_or_pos sz with e | e; (subst e; simp at hi); exact e
      have hj : i / sz < m := (Nat.div_lt_iff_lt_mul hz).2 hi
      have hm : i % sz < sz := Nat.mod_lt _ hz
      have g := get_flat hs (List.replicate m x) (i / sz) (i % sz) x (by simp [hj]) hm
      rw [show i / sz * sz + i % sz = i by rw [Nat.mul_comm]; exact Nat.div_add_mod i sz] at g
      have e2 : ((List.replicate m x).flatMap enc).toArray[i]? = (enc x)[i % sz]? := by rw [List.getElem?_toArray]; exact g
      rw [e2]
      simp [Builtin.zeroCells, hx, hi, hm]
    · rw [Array.getElem?_eq_none (by simp [Builtin.zeroCells, hx]; omega), Array.getElem?_eq_none (by simp [length_flat hs]; omega)]
  have o : Own enc sz (h.push (.cells ((List.replicate m x).flatMap enc).toArray e)) (some h.size) (.slice (some ⟨h.size, 0, none⟩) n m) (List.replicate n x) := by
    refine .inr ⟨h.size, 0, n, m, _, e, rfl, rfl, by simp, hnm, Heap.has_new _ _, by simp [length_flat hs], fun j y hj i u hu => ?_⟩
    have hi : i < sz := by have := (List.getElem?_eq_some_iff.1 hu).1; rw [hs] at this; exact this
    have hj' := (List.getElem?_eq_some_iff.1 hj).1
    simp at hj'
    have : y = x := by rw [List.getElem?_replicate, if_pos hj'] at hj; cases hj; rfl
    subst this
    have g := get_flat hs (List.replicate m y) j i y (by rw [List.getElem?_replicate, if_pos (by omega)]) hi
    rw [hu] at g
    simpa using g
  rw [show (Builtin.zeroCells (enc x).toArray (m : Int).toNat) = _ from hc, Int.toNat_natCast, Int.toNat_natCast]
  exact H _ _ trivial (s.add1 (sep_own (Ext.refl h).push o fun _ e => by cases e; exact Nat.le_refl _))
end

/-! ### What a frame lets be read -/
section
variable {α : Type} {enc : α → List Value} {sz : Nat} {h0 h : Heap} {A B C D : HP} {F : List HP} {v : Value} {l : List α}
def Rd (enc : α → List Value) (sz : Nat) (h0 : Heap) (F : List HP) (v : Value) (l : List α) : Prop := ∀ L h, Sep h0 (L ++ F) h → Seq enc sz h v l
theorem Rd.base (a : Seq enc sz h0 v l) : Rd enc sz h0 F v l := fun _ _ s => a.ext s.ext
theorem Rd.weak (r : Rd enc sz h0 F v l) : Rd enc sz h0 (A :: F) v l := fun L h s => r (L ++ [A]) h (by rw [List.append_assoc]; exact s)
theorem Rd.own0 : Rd enc sz h0 (Sl enc sz v l :: F) v l := fun L h s => (s.perm (List.perm_middle)).seq
theorem Rd.own1 : Rd enc sz h0 (A :: Sl enc sz v l :: F) v l := Rd.own0.weak
theorem Rd.own2 : Rd enc sz h0 (A :: B :: Sl enc sz v l :: F) v l := Rd.own1.weak
theorem Rd.own3 : Rd enc sz h0 (A :: B :: C :: Sl enc sz v l :: F) v l := Rd.own2.weak
theorem Rd.cut (r : Rd enc sz h0 F v l) {i j : Nat} (hi : i ≤ j) (hj : j ≤ l.length) : Rd enc sz h0 F (HW.cutP v i j sz) ((l.take j).drop i) := fun L h s => (r L h s).cutP hi hj
theorem Rd.at0 (r : Rd enc sz h0 F v l) (s : Sep h0 F h) : Seq enc sz h v l := r [] h s
theorem Rd.at1 (r : Rd enc sz h0 F v l) (s : Sep h0 (A :: F) h) : Seq enc sz h v l := r [_] h s
theorem Rd.at2 (r : Rd enc sz h0 F v l) (s : Sep h0 (A :: B :: F) h) : Seq enc sz h v l := r [_, _] h s
theorem Rd.at3 (r : Rd enc sz h0 F v l) (s : Sep h0 (A :: B :: C :: F) h) : Seq enc sz h v l := r [_, _, _] h s
theorem Rd.at4 (r : Rd enc sz h0 F v l) (s : Sep h0 (A :: B :: C :: D :: F) h) : Seq enc sz h v l := r [_, _, _, _] h s
end
end Go.HW

end

section
/- []byte("..") of a constant: the row is marked behind its last cell. -/
namespace Go.HW
open Go
def Heap.mark (h : Heap) (b : Nat) (C : Array Value) (e : TypeId) : Heap := h.setIfInBounds b (.cells C e (C.size, C.size + 1))
def sMark (h : Heap) (x : Value) (K : Value → Heap → Prop) : Prop := ∃ b o n c C e, x = .slice (some ⟨b, o, none⟩) n c ∧ h.has b C e ∧ K x (h.mark b C e)
section
variable {P : Program} {ρ : Operand → Value}
variable {dst : Option Tmp} {tp : TypeId} {pos : String} {after : Array Edge} {g : Option (Nat × Bool)}
theorem d_mark {h : Heap} {K : Value → Heap → Prop} {X : Operand} {x : Value} {t e : TypeId} (ht : P.underlying t = some (.slice e)) (he : P.underlying e = some (.int .u8)) (hx : ρ X = x) (H : sMark h x K) :
    Does P ρ ⟨dst, .convert t t X, tp, pos, after, g⟩ h K := by
  obtain ⟨b, o, n, c, C, e', rfl, hb, hk⟩ := H
  intro w hw
  have hsh : w.shape? b = some (e', C.size) := by
    unfold World.shape?
    rw [hw, show h[b]? = _ from hb]
  refine .inl ⟨.slice (some ⟨b, o, none⟩) n c, w.freeze ⟨b, C.size, none⟩ 1, ?_, ?_, ?_⟩
  · simp [execOp, hx, go_sem, convert, run_underlying ht, run_underlying he, markStringish, hsh]
  · have : (w.freeze ⟨b, C.size, none⟩ 1).heap = h.mark b C e' := by
      unfold World.freeze Heap.mark
      rw [if_neg (by decide)]
      simp only [hw]
      apply Array.ext_getElem?
      intro i
      rw [Array.getElem?_modify, Array.getElem?_setIfInBounds]
      by_cases e : b = i
      · subst e
        rw [if_pos rfl, if_pos rfl, if_pos hb.lt, show h[b]? = _ from hb]
        rfl
      · rw [if_neg e, if_neg e]
    rw [this]; exact hk
  · refine ⟨?_, ?_, ?_⟩ <;> (unfold World.freeze; rw [if_neg (by decide)])
end
section
variable {α : Type} {enc : α → List Value} {sz : Nat} {h0 h : Heap} {F : List HP} {v : Value} {l : List α}
/-- A marked row can be read, and no more. -/
def Ro (enc : α → List Value) (sz : Nat) (v : Value) (l : List α) : HP where
  P s h := ∃ b C e m n o f, v = .slice (some ⟨b, o, none⟩) n m ∧ (∀ i, s i ↔ i = b) ∧ h[b]? = some (.cells C e f) ∧ l.length = n ∧ n ≤ m ∧ ∀ j x, l[j]? = some x → ∀ i u, (enc x)[i]? = some u → C[o + j * sz + i]? = some u
  loc := fun ⟨b, C, e, m, n, o, f, h1, h2, h3, h4⟩ hh => ⟨b, C, e, m, n, o, f, h1, h2, by rw [hh b ((h2 b).2 rfl)]; exact h3, h4⟩
  dom := fun ⟨b, C, e, m, n, o, f, h1, h2, h3, h4⟩ i hi => by rw [(h2 i).1 hi]; exact (Array.getElem?_eq_some_iff.1 h3).1
theorem Sep.roseq (s : Sep h0 (Ro enc sz v l :: F) h) : Seq enc sz h v l := by
  obtain ⟨t, ⟨b, C, e, m, n, o, f, rfl, h2, h3, h4, h5, h6⟩, _⟩ := s.head
  refine ⟨_, _, _, rfl, h4, h5, .inr ⟨b, o, rfl, (Array.getElem?_eq_some_iff.1 h3).1, fun j x hj i u hu => ?_⟩⟩
  unfold Heap.at; rw [h3]; exact h6 j x hj i u hu
theorem Sep.mark {K : Value → Heap → Prop} (s : Sep h0 (Sl enc sz v l :: F) h) (hl : l ≠ []) (H : ∀ h', Sep h0 (Ro enc sz v l :: F) h' → K v h') : sMark h v K := by
  obtain ⟨t, ⟨k, o, hk⟩, _, _, fin⟩ := s.focus
  rcases o with ⟨_, _, e⟩ | ⟨b, p, n, m, C, e, rfl, rfl, hn, hm, hb, hs, hc⟩
  · exact (hl e).elim
  · refine ⟨b, p, n, m, C, e, rfl, hb, H _ ?_⟩
    have hlt := hb.lt
    have hget : (h.mark b C e)[b]? = some (.cells C e (C.size, C.size + 1)) := by unfold Heap.mark; simp [hlt]
    refine fin [Ro enc sz (.slice (some ⟨b, p, none⟩) n m) l] (fun i => i = b) _ ⟨fun i => i = b, fun _ => False, ⟨b, C, e, m, n, p, _, rfl, fun _ => Iff.rfl, hget, hn, hm, hc⟩, fun _ h => h, fun _ _ h => h, fun i => by simp⟩ (fun i hi => .inl ((hk i).2 (by rw [hi]))) (by unfold Heap.mark; simp) (fun i _ hi => ?_)
    unfold Heap.mark
    rw [Array.getElem?_setIfInBounds_ne fun e => hi ((hk i).2 (by rw [e]))]
end
end Go.HW

end

section
/- append(append([]T{}, l...), r, ..): in whatever order the slices are made. -/
namespace Go.HW
open Go

section
variable {α : Type} {enc : α → List Value} {sz : Nat} {h0 h : Heap} {F : List HP} {x0 : Value} {l rs : List α} {z zs : Array Value} {ps : List (Nat × Nat × Value)} {t bytes n : Nat} {K : Value → Heap → Prop}

theorem cat_C {C : Heap → Prop} (hC : ∀ L h', Sep h0 (L ++ F) h' → C h') (hz : z.size = sz) (hp : 0 < sz) (hs : ∀ x, (enc x).length = sz) (h1 : ∀ x, ∀ u ∈ enc x, Cell1 u) (s : Sep h0 F h) (q : Rd enc sz h0 F x0 l) (hn : rs.length = n) (hf : sFill zs ps fun cs => cs = (rs.flatMap enc).toArray)
    (hb : (l.length + rs.length) * bytes ≤ 2 ^ 40) (hb0 : 0 < bytes) (H : ∀ v h', Cell1 v → Sep h0 (Sl enc sz v (l ++ rs) :: F) h' → K v h') :
    (sSlit h #[] [] t 0 fun a h => C h ∧ (
      (sApp h a x0 z t bytes fun b h => C h ∧ (sSlit h zs ps t n fun c h => sApp h b c z t bytes fun d h => K d h)) ∧
      (sSlit h zs ps t n fun c h => sApp h a x0 z t bytes fun b h => C h ∧ (sApp h b c z t bytes fun d h => K d h)))) ∧
    (sSlit h zs ps t n fun c h => sSlit h #[] [] t 0 fun a h => C h ∧ (sApp h a x0 z t bytes fun b h => C h ∧ (sApp h b c z t bytes fun d h => K d h))) := by
  have hbl : (([] : List α).length + l.length) * bytes ≤ 2 ^ 40 := Nat.le_trans (Nat.mul_le_mul_right _ (by simp)) hb
  refine ⟨s.slit hs [] rfl rfl fun a h1' _ s1 => ⟨hC [_] _ s1, ?_, ?_⟩, s.slit hs rs hn hf fun c h1' _ s1 => s1.slit hs [] rfl rfl fun a h2 _ s2 => ⟨hC [_, _] _ s2, ?_⟩⟩
  · refine s1.app hz hp hs h1 (q.at1 s1) hbl hb0 fun b h2 _ s2 => ⟨hC [_] _ s2, s2.slit hs rs hn hf fun c h3 _ s3 => ?_⟩
    exact s3.b1.app hz hp hs h1 s3.seq hb hb0 fun d h4 hc s4 => H d h4 hc s4.drop1
  · refine s1.slit hs rs hn hf fun c h2 _ s2 => s2.b1.app hz hp hs h1 (q.at2 s2) hbl hb0 fun b h3 _ s3 => ⟨hC [_, _] _ s3, ?_⟩
    exact s3.app hz hp hs h1 s3.b1.seq hb hb0 fun d h4 hc s4 => H d h4 hc s4.drop1
  · refine s2.app hz hp hs h1 (q.at2 s2) hbl hb0 fun b h3 _ s3 => ⟨hC [_, _] _ s3, ?_⟩
    exact s3.app hz hp hs h1 s3.b1.seq hb hb0 fun d h4 hc s4 => H d h4 hc s4.drop1
theorem cat_P (hz : z.size = sz) (hp : 0 < sz) (hs : ∀ x, (enc x).length = sz) (h1 : ∀ x, ∀ u ∈ enc x, Cell1 u) (s : Sep h0 F h) (q : Rd enc sz h0 F x0 l) (hn : rs.length = n) (hf : sFill zs ps fun cs => cs = (rs.flatMap enc).toArray)
    (hb : (l.length + rs.length) * bytes ≤ 2 ^ 40) (hb0 : 0 < bytes) (H : ∀ v h', Cell1 v → Sep h0 (Sl enc sz v (l ++ rs) :: F) h' → K v h') :
    (sSlit h #[] [] t 0 fun a h =>
      (sApp h a x0 z t bytes fun b h => (sSlit h zs ps t n fun c h => sApp h b c z t bytes fun d h => K d h)) ∧
      (sSlit h zs ps t n fun c h => sApp h a x0 z t bytes fun b h => (sApp h b c z t bytes fun d h => K d h))) ∧
    (sSlit h zs ps t n fun c h => sSlit h #[] [] t 0 fun a h => (sApp h a x0 z t bytes fun b h => (sApp h b c z t bytes fun d h => K d h))) := by
  have hbl : (([] : List α).length + l.length) * bytes ≤ 2 ^ 40 := Nat.le_trans (Nat.mul_le_mul_right _ (by simp)) hb
  refine ⟨s.slit hs [] rfl rfl fun a h1' _ s1 => ⟨?_, ?_⟩, s.slit hs rs hn hf fun c h1' _ s1 => s1.slit hs [] rfl rfl fun a h2 _ s2 => ?_⟩
  · refine s1.app hz hp hs h1 (q.at1 s1) hbl hb0 fun b h2 _ s2 => s2.slit hs rs hn hf fun c h3 _ s3 => ?_
    exact s3.b1.app hz hp hs h1 s3.seq hb hb0 fun d h4 hc s4 => H d h4 hc s4.drop1
  · refine s1.slit hs rs hn hf fun c h2 _ s2 => s2.b1.app hz hp hs h1 (q.at2 s2) hbl hb0 fun b h3 _ s3 => ?_
    exact s3.app hz hp hs h1 s3.b1.seq hb hb0 fun d h4 hc s4 => H d h4 hc s4.drop1
  · refine s2.app hz hp hs h1 (q.at2 s2) hbl hb0 fun b h3 _ s3 => ?_
    exact s3.app hz hp hs h1 s3.b1.seq hb hb0 fun d h4 hc s4 => H d h4 hc s4.drop1
/-- append(append([]T{}, l...), r...): r is there already. -/
theorem cat_2 {y : Value} (hz : z.size = sz) (hp : 0 < sz) (hs : ∀ x, (enc x).length = sz) (h1 : ∀ x, ∀ u ∈ enc x, Cell1 u) (s : Sep h0 F h) (q : Rd enc sz h0 F x0 l) (q2 : Rd enc sz h0 F y rs)
    (hb : (l.length + rs.length) * bytes ≤ 2 ^ 40) (hb0 : 0 < bytes) (H : ∀ v h', Cell1 v → Sep h0 (Sl enc sz v (l ++ rs) :: F) h' → K v h') :
    (sSlit h #[] [] t 0 fun a h => sApp h a x0 z t bytes fun b h => sApp h b y z t bytes fun d h => K d h) := by
  have hbl : (([] : List α).length + l.length) * bytes ≤ 2 ^ 40 := Nat.le_trans (Nat.mul_le_mul_right _ (by simp)) hb
  refine s.slit hs [] rfl rfl fun a h1' _ s1 => s1.app hz hp hs h1 (q.at1 s1) hbl hb0 fun b h2 _ s2 => ?_
  exact s2.app hz hp hs h1 (q2.at1 s2) hb hb0 fun d h4 hc s4 => H d h4 hc s4
end
end Go.HW
namespace Go.HW
open Go
section
variable {α : Type} {enc : α → List Value} {sz : Nat} {h0 : Heap} {C : Heap → Prop} {v : Value} {l : List α}
/-- Elements read while the heap is left open. -/
theorem Seq.ldC {j : Nat} {x : α} {u : Value} {q : IntKind} {K : Value → Prop} (hC : C h0) (hs : ∀ h, C h → Seq enc sz h v l) (hj : l[j]? = some x) (hu : enc x = [u]) : sIxS v (.int q j) sz (fun p => sLdC C p K) = K u := by
  have s0 := hs h0 hC
  have hlt := (List.getElem?_eq_some_iff.1 hj).1
  rw [s0.elt hlt]
  obtain ⟨b, o, e, _⟩ := s0.elt1 (K := K) (i := 0) (u := u) hj (by rw [hu]; rfl)
  rw [e]
  refine ldc_at (h0 := h0) hC fun h hh => ?_
  obtain ⟨b', o', e', h1⟩ := (hs h hh).elt1 (K := fun y => y = u) (i := 0) (u := u) hj (by rw [hu]; rfl)
  rw [e] at e'
  cases e'
  rw [ev_ld] at h1
  cases hx : h.at b (o + 0) with
  | none => rw [hx] at h1; exact (h1.mpr rfl).elim
  | some y => rw [hx] at h1; have : y = u := h1.mpr rfl; subst this; rfl
theorem Seq.ldnC {j : Nat} {x : α} {q : IntKind} {K : Value → Prop} (hC : C h0) (hs : ∀ h, C h → Seq enc sz h v l) (hj : l[j]? = some x) (hl : (enc x).length = sz) : sIxS v (.int q j) sz (fun p => sLdNC C p sz K) = K (.agg (enc x).toArray) := by
  have s0 := hs h0 hC
  have hlt := (List.getElem?_eq_some_iff.1 hj).1
  obtain ⟨a, n, m, rfl, hn, hm, h2 | ⟨b, o, rfl, hb, hc⟩⟩ := s0
  · omega
  · rw [ev_ixs (by omega) (by omega), Int.toNat_natCast]
    have key : ∀ h, C h → h.row b (o + j * sz) sz (enc x).toArray := fun h hh => by
      obtain ⟨a', n', m', e', hn', hm', h2' | ⟨b', o', e'', hb', hc'⟩⟩ := hs h hh
      · cases e'; omega
      · cases e'; cases e''
        have := (hc' j x hj).row
        rwa [hl] at this
    refine propext ⟨fun ⟨_, _, cs, e, hr, y⟩ => ?_, fun y => ⟨b, _, _, rfl, key, y⟩⟩
    cases e
    have h1 := hr h0 hC
    have h2 := key h0 hC
    have : cs = (enc x).toArray := by
      apply Array.ext_getElem?
      intro i
      by_cases hi : i < sz
      · rw [← h1.2 i hi, ← h2.2 i hi]
      · rw [Array.getElem?_eq_none (by have := h1.1; omega), Array.getElem?_eq_none (by have := h2.1; omega)]
    rwa [this] at y
end
end Go.HW

end

section
/- append(x, make([]T, n)...): zero cells behind a slice. -/
set_option linter.unusedSimpArgs false
namespace Go.HW
open Go
def sAppZ (h : Heap) (s x : Value) (z : Array Value) (e bytes : Nat) (K : Value → Heap → Prop) : Prop :=
  ∃ base sl sc n new, s = .slice base sl sc ∧ (∃ k, x = .int k (n : Nat)) ∧ new = Builtin.zeroCells z n ∧ new.size = n * z.size ∧ (sl + n) * bytes ≤ 2 ^ 40 ∧ 0 < bytes ∧ (∀ u ∈ new.toList, Cell1 u) ∧
    (sl + n ≤ sc → (base = none ∧ K (.slice none (sl + n) sc) h) ∨ ∃ b o, base = some ⟨b, o, none⟩ ∧ h.fits b (o + sl * z.size) (n * z.size) ∧ K (.slice base (sl + n) sc) (h.puts b (o + sl * z.size) new.toList)) ∧
    (sc < sl + n → ∃ old, rowOf h s z.size sl old ∧ ∀ c, sl + n ≤ c → c < 2 ^ 63 → K (.slice (some ⟨h.size, 0, none⟩) (sl + n) c) (h.push (.cells (old ++ new ++ Builtin.zeroCells z (c - (sl + n))) e)))
section
variable {P : Program} {ρ : Operand → Value}
variable {dst : Option Tmp} {tp : TypeId} {pos : String} {after : Array Edge} {g : Option (Nat × Bool)}
theorem run_appendz_eq {w : World} {h : Heap} (hw : w.heap = h) {t t2 e bytes n sl sc : Nat} {i : TypeInfo} {kk k : IntKind} {zv : Value} {z : Array Value} {base : Option Addr} (ht : P.underlying t = some (.slice e)) (ht2 : P.underlying t2 = some (.int kk))
    (hi : ∀ w, (typeInfo e).run P w = .ok i w) (hib : i.bytes = bytes) (hs : ∀ w, (sizeOf e).run P w = .ok z.size w) (hz : ∀ w, (zeroValue e).run P w = .ok zv w) (hzz : zv.cells = z) (ty : TypeId)
    (hb : (sl + n) * bytes ≤ 2 ^ 40) (hb0 : 0 < bytes) :
    (Builtin.append_ #[t, t2] ty #[.slice base sl sc, .int k (n : Nat)]).run P w = (if sl + n ≤ sc then
      (match base with
        | some a => ((storeCells (a.add (sl * z.size)) (Builtin.zeroCells z n).toList).run P w).andThen fun _ w' => .ok (.slice base (sl + n) sc) w'
        | none => .ok (.slice base (sl + n) sc) w)
    else (do
      let newCap ← choose (.appendCap (sl + n) sc e)
      askRoom (newCap * bytes)
      let old ← Builtin.firstCells z.size sl (.slice base sl sc)
      let rest := Builtin.zeroCells z (newCap - (sl + n))
      pure (.slice (some (← newRow e (old ++ Builtin.zeroCells z n ++ rest))) (sl + n) newCap) : Sem Value).run P w) := by
  have hu : ∀ w, (underlying t).run P w = .ok (.slice e) w := fun w => by simp [underlying, go_sem, ht]
  have hu2 : ∀ w, (underlying t2).run P w = .ok (.int kk) w := fun w => by simp [underlying, go_sem, ht2]
  have hnn : n ≤ 2 ^ 40 := by
    have : sl + n ≤ (sl + n) * bytes := Nat.le_mul_of_pos_right _ hb0
    omega
  have hw64 : IntKind.i64.wrap (n : Int) = (n : Int) := wrap_i64 (by omega) (by omega)
  have hai : (asInt (.int k (n : Int))).run P w = .ok (n : Int) w := rfl
  have hneg : ¬ (n : Int) < 0 := by omega
  have hbig : ¬ (n : Int) * (bytes : Int) > 2 ^ 48 := by
    have h1 : n * bytes ≤ (sl + n) * bytes := Nat.mul_le_mul_right _ (by omega)
    have h2 : ((n * bytes : Nat) : Int) ≤ 2 ^ 40 := by exact_mod_cast Nat.le_trans h1 hb
    rw [Int.natCast_mul] at h2
    omega
  have happ : ∀ w2 : World, ((if n * z.size = 0 then pure #[] else do
      let a ← zeroValue e
      pure (Builtin.zeroCells a.cells n)) : Sem (Array Value)).run P w2 = .ok (Builtin.zeroCells z n) w2 := by
    intro w2
    split
    · rename_i h0
      have : Builtin.zeroCells z n = #[] := by unfold Builtin.zeroCells; rw [h0]; simp
      rw [this]; rfl
    · simp only [Sem.run_bind, hz, Result.andThen_ok, Sem.run_pure, hzz]
  unfold Builtin.append_
  simp only [List.getElem?_toArray, List.getElem?_cons_zero, List.getElem?_cons_succ, Sem.run_bind, hu, hu2, Result.andThen_ok, hs, Sem.run_pure, if_true, hai, hw64, if_neg hneg, hi, hib, if_neg hbig, Int.toNat_natCast, Bool.not_true, Bool.false_eq_true, if_false]
  by_cases hc : sl + n ≤ sc
  · rw [if_pos hc, if_pos hc]
    simp only [Sem.run_bind, happ, Result.andThen_ok]
    cases base with
    | none => rfl
    | some a => simp only [Sem.run_bind, Sem.run_pure]
  · rw [if_neg hc, if_neg hc]
    have hcap := nextcap_le (sl + n) sc (by omega)
    have hnb : ¬ Builtin.nextslicecap (sl + n) sc * bytes > 2 ^ 48 := by
      have h1 : Builtin.nextslicecap (sl + n) sc * bytes ≤ 2 * (sl + n) * bytes := Nat.mul_le_mul_right _ hcap
      have h2 : 2 * (sl + n) * bytes = 2 * ((sl + n) * bytes) := by rw [Nat.mul_assoc]
      omega
    have hb1 : ¬ (((sl + n : Nat) : Int) > IntKind.i64.max ∧ (True ∨ bytes = 0)) := by
      rintro ⟨hx, _⟩
      have : IntKind.i64.max = 9223372036854775807 := by decide
      rw [this] at hx
      have : sl + n ≤ (sl + n) * bytes := Nat.le_mul_of_pos_right _ hb0
      omega
    simp only [Sem.run_bind, hi, hib, hz, hzz, Result.andThen_ok, if_neg hb1, if_neg hnb, Sem.run_pure, happ]

theorem d_appz {h : Heap} {K : Value → Heap → Prop} {X Y : Operand} {t t2 e bytes : Nat} {i : TypeInfo} {kk : IntKind} {zv s x : Value} {z : Array Value} (ht : P.underlying t = some (.slice e)) (ht2 : P.underlying t2 = some (.int kk))
    (hi : ∀ w, (typeInfo e).run P w = .ok i w) (hib : i.bytes = bytes) (hs : ∀ w, (sizeOf e).run P w = .ok z.size w) (hz : ∀ w, (zeroValue e).run P w = .ok zv w) (hzz : zv.cells = z) (hx : ρ X = s) (hy : ρ Y = x) (H : sAppZ h s x z e bytes K) :
    Does P ρ ⟨dst, .call ⟨.builtin .append, #[X, Y], #[t, t2]⟩, tp, pos, after, g⟩ h K := by
  obtain ⟨base, sl, sc, n, new, rfl, ⟨k, rfl⟩, hr, hnz, hb, hb0, h1, hroom, hgrow⟩ := H
  intro w hw
  have e1 : execOp ρ ⟨dst, .call ⟨.builtin .append, #[X, Y], #[t, t2]⟩, tp, pos, after, g⟩ = Sem.bind (Builtin.append_ #[t, t2] tp (#[X, Y].map ρ)) fun v => Sem.pure (Next.value v) := rfl
  rw [show #[X, Y].map ρ = #[ρ X, ρ Y] by simp] at e1
  have hrun := run_appendz_eq (P := P) (k := k) hw ht ht2 hi hib hs hz hzz tp (base := base) (sc := sc) (n := n) hb hb0
  rw [← hr] at hrun
  suffices hh : ∃ v w', (Builtin.append_ #[t, t2] tp #[.slice base sl sc, .int k (n : Nat)]).run P w = .ok v w' ∧ K v w'.heap ∧ Kept w w' by
    obtain ⟨v, w', h2, h3, h4⟩ := hh
    refine .inl ⟨v, w', ?_, h3, h4⟩
    rw [e1, hx, hy, run_bindS, h2]
    rfl
  rw [hrun]
  by_cases hc : sl + n ≤ sc
  · rw [if_pos hc]
    rcases hroom hc with ⟨rfl, hk⟩ | ⟨b, o, rfl, hf, hk⟩
    · exact ⟨_, w, rfl, by rw [hw]; exact hk, Kept.refl w⟩
    · obtain ⟨w', r1, r2, r3⟩ := run_storeCells_row (P := P) new.toList 0 (b := b) (o := o + sl * z.size) hw h1 (by simpa [hnz] using hf)
      refine ⟨_, w', ?_, by rw [r2]; exact hk, r3⟩
      have : (Addr.add ⟨b, o, none⟩ (sl * z.size)) = ⟨b, o + sl * z.size, none⟩ := by unfold Addr.add; split <;> simp_all
      simp only [this, r1, Result.andThen_ok]
  · rw [if_neg hc]
    obtain ⟨old, ho, hk⟩ := hgrow (by omega)
    have hcut : ∀ tt : Nat, sl + n ≤ (Question.appendCap (sl + n) sc e).cut tt ∧ ((sl + n < 2 ^ 63) → (Question.appendCap (sl + n) sc e).cut tt < 2 ^ 63) := fun tt => by
      refine ⟨by simp [Question.cut], fun hlt => ?_⟩
      have : tt % (2 ^ 63 - (sl + n)) < 2 ^ 63 - (sl + n) := Nat.mod_lt _ (by omega)
      simp only [Question.cut]
      omega
    have hsm : sl + n < 2 ^ 63 := by
      have : sl + n ≤ (sl + n) * bytes := Nat.le_mul_of_pos_right _ hb0
      omega
    let c := (Question.appendCap (sl + n) sc e).cut (w.tape w.drawn (.appendCap (sl + n) sc e))
    have hro : ∀ w2 : World, w2.heap = h → (Builtin.firstCells z.size sl (.slice base sl sc)).run P w2 = .ok old w2 := fun w2 hw2 => run_first hw2 ho
    refine ⟨.slice (some ⟨h.size, 0, none⟩) (sl + n) c, { w with drawn := w.drawn + 1, heap := w.heap.push (.cells (old ++ new ++ Builtin.zeroCells z (c - (sl + n))) e) }, ?_, ?_, ⟨rfl, rfl, rfl⟩⟩
    · have hask : ∀ (m : Nat) (w2 : World), (askRoom m).run P w2 = .ok () w2 := fun m w2 => by unfold askRoom; split <;> rfl
      have hch : (choose (.appendCap (sl + n) sc e)).run P w = .ok c { w with drawn := w.drawn + 1 } := rfl
      simp only [Sem.run_bind, hch, Result.andThen_ok, hask, hro { w with drawn := w.drawn + 1 } hw, run_newRow, Sem.run_pure]
      rw [hw]
    · show K _ (w.heap.push _)
      rw [hw]
      exact hk c (hcut _).1 ((hcut _).2 hsm)
end
section
variable {α : Type} {enc : α → List Value} {sz : Nat} {h0 h : Heap} {F : List HP} {v : Value} {l : List α}
theorem ev_appz {β : Type} {enc : β → List Value} {sz bytes e : Nat} {z : Array Value} {h : Heap} {k : Option Nat} {v w : Value} {l r : List β} {K : Value → Heap → Prop} (hz : z.size = sz) (h0 : 0 < sz)
    (hs : ∀ x, (enc x).length = sz) (h1 : ∀ x, ∀ u ∈ enc x, Cell1 u) (o : Own enc sz h k v l) (hl : ∃ k, w = .int k (r.length : Nat)) (hr : (r.flatMap enc).toArray = Builtin.zeroCells z r.length)
    (hb : (l.length + r.length) * bytes ≤ 2 ^ 40) (hb0 : 0 < bytes)
    (H : ∀ k' v' h', Own enc sz h' k' v' (l ++ r) → (k' = k ∨ k' = some h.size) → h.size ≤ h'.size → (∀ i, i < h.size → some i ≠ k → h'[i]? = h[i]?) → K v' h') : sAppZ h v w z e bytes K := by
  subst hz
  have hf : (r.flatMap enc).length = r.length * z.size := length_flat hs r
  have hcell : ∀ u ∈ (r.flatMap enc).toArray.toList, Cell1 u := fun u hu => by
    simp at hu
    obtain ⟨x, _, hx⟩ := hu
    exact h1 x u hx
  rcases o with ⟨rfl, rfl, rfl⟩ | ⟨b, p, n, m, c, t, rfl, rfl, hn, hm, hhas, hcs, hc⟩
  · refine ⟨none, 0, 0, r.length, _, rfl, hl, hr, by simpa using hf, by simpa using hb, hb0, hcell, fun x => ?_, fun x => ⟨#[], rfl, fun q hq hq2 => ?_⟩⟩
    · left
      have : r = [] := List.eq_nil_of_length_eq_zero (by omega)
      subst this
      exact ⟨rfl, H none _ h .nil (.inl rfl) (Nat.le_refl _) fun _ _ _ => rfl⟩
    · refine H (some h.size) _ _ (.inr ⟨h.size, 0, _, q, _, e, rfl, rfl, by simp, by omega, Heap.has_new _ _, ?_, ?_⟩) (.inr rfl) (by rw [Array.size_push]; omega) (fun i hi _ => by rw [Array.getElem?_push, if_neg (by omega)])
      · simp [Builtin.zeroCells, hf]
        rw [← Nat.add_mul]; exact Nat.mul_le_mul_right _ (by omega)
      · intro j x hj i u hu
        simp at hj
        have hi : i < z.size := by have := (List.getElem?_eq_some_iff.1 hu).1; rw [hs] at this; exact this
        have g := get_flat hs r j i x hj hi
        rw [hu] at g
        have hlt := (List.getElem?_eq_some_iff.1 g).1
        rw [Nat.zero_add, Array.getElem?_append_left (by simpa using hlt), Array.getElem?_append_right (by simp)]
        simpa using g
  · subst hn
    have hml := Nat.mul_le_mul_right z.size hm
    refine ⟨_, l.length, m, r.length, _, rfl, hl, hr, by simpa using hf, hb, hb0, hcell, fun x => .inr ⟨b, p, rfl, ?_, ?_⟩, fun x => ⟨c.extract p (p + l.length * z.size), ?_, fun q hq hq2 => ?_⟩⟩
    · refine hhas.fits ?_
      have := Nat.mul_le_mul_right z.size x
      rw [Nat.add_mul] at this; omega
    · rw [hhas.puts]
      refine H (some b) _ _ (.inr ⟨b, p, _, m, _, t, rfl, rfl, by simp, x, Heap.has_upd hhas.lt _ _, by rw [size_putRow]; exact hcs, ?_⟩) (.inl rfl) (by simp) (fun i hi hne => ?_)
      · intro j y hj i u hu
        have hi : i < z.size := by have := (List.getElem?_eq_some_iff.1 hu).1; rw [hs] at this; exact this
        by_cases hjl : j < l.length
        · rw [List.getElem?_append_left hjl] at hj
          rw [get_putRow_lt]
          · exact hc j y hj i u hu
          · have b1 : j * z.size + i < l.length * z.size := by
              calc j * z.size + i < j * z.size + z.size := by omega
                _ = (j + 1) * z.size := by rw [Nat.add_mul, Nat.one_mul]
                _ ≤ l.length * z.size := Nat.mul_le_mul_right _ hjl
            omega
        · rw [List.getElem?_append_right (by omega)] at hj
          have g := get_flat hs r (j - l.length) i y hj hi
          rw [hu] at g
          have hlt := (List.getElem?_eq_some_iff.1 g).1
          have e3 : j * z.size = l.length * z.size + (j - l.length) * z.size := by rw [← Nat.add_mul]; congr 1; omega
          have e2 : p + j * z.size + i = p + l.length * z.size + ((j - l.length) * z.size + i) := by omega
          rw [e2, get_putRow _ _ _ _ (by simpa using hlt)]
          · simpa using g
          · have := Nat.mul_le_mul_right z.size x
            rw [Nat.add_mul] at this
            have q1 : (r.flatMap enc).toArray.toList.length = (r.flatMap enc).length := (by simp)
            rw [q1]; omega
      · unfold Heap.upd
        rw [Array.getElem?_setIfInBounds_ne]
        intro e; subst e; exact hne rfl
    · have := hhas.row (o := p) (n := l.length * z.size) (by omega)
      exact .inr ⟨rfl, this⟩
    · have hel : (c.extract p (p + l.length * z.size)).size = l.length * z.size := by
        simp; omega
      refine H (some h.size) _ _ (.inr ⟨h.size, 0, _, q, _, e, rfl, rfl, by simp, by omega, Heap.has_new _ _, ?_, ?_⟩) (.inr rfl) (by rw [Array.size_push]; omega) (fun i hi _ => by rw [Array.getElem?_push, if_neg (by omega)])
      · rw [Array.size_append, Array.size_append, hel]
        simp [Builtin.zeroCells, hf]
        rw [← Nat.add_mul, ← Nat.add_mul]; exact Nat.mul_le_mul_right _ (by omega)
      · intro j y hj i u hu
        have hi : i < z.size := by have := (List.getElem?_eq_some_iff.1 hu).1; rw [hs] at this; exact this
        rw [Nat.zero_add]
        by_cases hjl : j < l.length
        · rw [List.getElem?_append_left hjl] at hj
          have b1 : j * z.size + i < l.length * z.size := by
            calc j * z.size + i < j * z.size + z.size := by omega
              _ = (j + 1) * z.size := by rw [Nat.add_mul, Nat.one_mul]
              _ ≤ l.length * z.size := Nat.mul_le_mul_right _ hjl
          rw [Array.getElem?_append_left (by rw [Array.size_append, hel]; omega), Array.getElem?_append_left (by rw [hel]; exact b1), Array.getElem?_extract, if_pos (by omega)]
          have := hc j y hj i u hu
          rw [Nat.add_assoc] at this
          exact this
        · rw [List.getElem?_append_right (by omega)] at hj
          have g := get_flat hs r (j - l.length) i y hj hi
          rw [hu] at g
          have hlt := (List.getElem?_eq_some_iff.1 g).1
          have e3 : j * z.size = l.length * z.size + (j - l.length) * z.size := by rw [← Nat.add_mul]; congr 1; omega
          have e2 : j * z.size + i = l.length * z.size + ((j - l.length) * z.size + i) := by omega
          rw [e2, Array.getElem?_append_left (by have q1 : (r.flatMap enc).toArray.size = (r.flatMap enc).length := (by simp); rw [Array.size_append, hel, q1]; omega), Array.getElem?_append_right (by rw [hel]; omega), hel, Nat.add_sub_cancel_left]
          simpa using g

theorem zero_flat (hs : ∀ x, (enc x).length = sz) (x : α) (m : Nat) : ((List.replicate m x).flatMap enc).toArray = Builtin.zeroCells (enc x).toArray m := by
  have hx := hs x
  apply Array.ext_getElem?
  intro i
  by_cases hi : i < m * sz
  · have hz : 0 < sz := by rcases Nat.eq_zero_or_pos sz with e | e; (subst e; simp at hi); exact e
    have hj : i / sz < m := (Nat.div_lt_iff_lt_mul hz).2 hi
    have hm : i % sz < sz := Nat.mod_lt _ hz
    have g := get_flat hs (List.replicate m x) (i / sz) (i % sz) x (by simp [hj]) hm
    rw [show i / sz * sz + i % sz = i by rw [Nat.mul_comm]; exact Nat.div_add_mod i sz] at g
    have e2 : ((List.replicate m x).flatMap enc).toArray[i]? = (enc x)[i % sz]? := by rw [List.getElem?_toArray]; exact g
    rw [e2]
    simp [Builtin.zeroCells, hx, hi, hm]
  · rw [Array.getElem?_eq_none (by simp [length_flat hs]; omega), Array.getElem?_eq_none (by simp [Builtin.zeroCells, hx]; omega)]
theorem Sep.appz {bytes e n : Nat} {z : Array Value} {w : Value} {k : IntKind} {x : α} {K : Value → Heap → Prop} (s : Sep h0 (Sl enc sz v l :: F) h) (hw : w = .int k (n : Nat)) (hz : z = (enc x).toArray) (hp : 0 < sz) (hs : ∀ x, (enc x).length = sz) (h1 : ∀ x, ∀ u ∈ enc x, Cell1 u)
    (hb : (l.length + n) * bytes ≤ 2 ^ 40) (hb0 : 0 < bytes) (H : ∀ v' h', Cell1 v' → Sep h0 (Sl enc sz v' (l ++ List.replicate n x) :: F) h' → K v' h') : sAppZ h v w z e bytes K := by
  obtain ⟨t, ⟨k1, o, hk⟩, _, _, fin⟩ := s.focus
  refine ev_appz (r := List.replicate n x) (by rw [hz]; simp [hs]) hp hs h1 o ⟨k, by rw [List.length_replicate]; exact hw⟩ (by rw [List.length_replicate, hz]; exact zero_flat hs x n) (by rw [List.length_replicate]; exact hb) hb0 (fun k' v' h' o' hk' hz' hh => H v' h' (own_cell o') (fin [Sl enc sz v' (l ++ List.replicate n x)] (fun i => some i = k') h' ⟨_, fun _ => False, ⟨k', o', fun _ => Iff.rfl⟩, fun _ h => h, fun _ _ h => h, fun b => by simp⟩ (fun i hi => ?_) hz' fun i hi hn => hh i hi fun e => hn ((hk i).2 e)))
  rcases hk' with e | e
  · exact .inl ((hk i).2 (hi.trans e))
  · rw [e] at hi; cases hi; exact .inr (Nat.le_refl _)
end
end Go.HW

end

section
/- Arguments of any shape: numbers, bools, slices, structs and arrays, one in another. -/
namespace Go.HW
open Go

inductive Shape where
  | int (k : IntKind)
  | bool
  | slice (s : Shape)
  | agg (r : Shape)
  | nil
  | cons (s r : Shape)

def Shape.size : Shape → Nat
  | .int _ | .bool | .slice _ => 1
  | .agg r => r.size
  | .nil => 0
  | .cons s r => s.size + r.size

/-- What cells of a shape bear. -/
def Rep : Shape → Heap → List Value → Prop
  | .int k, _, cs => ∃ n, cs = [.int k n] ∧ (Lit.int k n).wf = true
  | .bool, _, cs => ∃ b, cs = [.bool b]
  | .slice s, h, cs => ∃ (v : Value) (rows : List {r : List Value // r.length = s.size}), cs = [v] ∧ Seq Subtype.val s.size h v rows ∧ rows.length ≤ maxLen ∧ ∀ r ∈ rows, Rep s h r.1
  | .agg r, h, cs => Rep r h cs
  | .nil, _, cs => cs = []
  | .cons s r, h, cs => ∃ a b, cs = a ++ b ∧ Rep s h a ∧ Rep r h b

mutual
def isT (P : Program) : Shape → TypeId → Bool
  | .int k, t => match P.underlying t with
    | some (.int k') => k == k'
    | _ => false
  | .bool, t => match P.underlying t with
    | some .bool => true
    | _ => false
  | .slice s, t => match P.underlying t with
    | some (.slice e) => P.cellsOf e == s.size && decide (0 < s.size) && isT P s e
    | _ => false
  | .agg r, t => P.cellsOf t == r.size && match P.underlying t with
    | some (.struct fs) => isR P r (fs.toList.map fun f => (f.offset, f.type)) 0
    | some (.array n e) => isR P r ((List.range n).map fun i => (i * P.cellsOf e, e)) 0
    | _ => false
  | _, _ => false
def isR (P : Program) : Shape → List (Nat × TypeId) → Nat → Bool
  | .nil, [], _ => true
  | .cons s r, (o, t) :: l, off => o == off && P.cellsOf t == s.size && isT P s t && isR P r l (off + s.size)
  | _, _, _ => false
end

section
variable {H : Type} {en : TypeId × Value → H} {P : Program} {w : World} {base : Nat} {held : Bool}
theorem rep_size : ∀ {s : Shape} {h : Heap} {cs : List Value}, Rep s h cs → cs.length = s.size
  | .int _, _, _, ⟨_, e, _⟩ => by rw [e]; rfl
  | .bool, _, _, ⟨_, e⟩ => by rw [e]; rfl
  | .slice _, _, _, ⟨_, _, e, _⟩ => by rw [e]; rfl
  | .agg r, _, _, x => rep_size (s := r) x
  | .nil, _, _, x => by rw [show _ = [] from x]; rfl
  | .cons s r, _, _, ⟨a, b, e, x, y⟩ => by rw [e, List.length_append, rep_size x, rep_size y]; rfl

def TT (en : TypeId × Value → H) (P : Program) (w : World) (base : Nat) (held : Bool) (s : Shape) : Prop :=
  (∀ t, isT P s t = true → ∀ (n : Nat) (cs : List Value) (x : DataW H × List MemPlace), cs.length = s.size → DataW.trod en P w base (fun _ => true) held n t cs = some x → Rep s w.heap cs) ∧
  (∀ l off (cs : List Value), isR P s l off = true → cs.length = off + s.size → (∀ p ∈ l, ∃ n x, DataW.trod en P w base (fun _ => true) held n p.2 ((cs.drop p.1).take (P.cellsOf p.2)) = some x) → Rep s w.heap (cs.drop off))

theorem tt (en : TypeId × Value → H) (P : Program) (w : World) (base : Nat) (held : Bool) : ∀ s : Shape, TT en P w base held s
  | .int k => by
    refine ⟨fun t ht n cs x _ h => ?_, fun l off cs h _ _ => by unfold isR at h; cases h⟩
    unfold isT at ht
    split at ht
    · rename_i k' hu
      obtain rfl : k = k' := by simpa using ht
      obtain ⟨m, e, _, hw⟩ := DataW.trod_int hu h
      exact ⟨m, e, hw⟩
    · cases ht
  | .bool => by
    refine ⟨fun t ht n cs x _ h => ?_, fun l off cs h _ _ => by unfold isR at h; cases h⟩
    unfold isT at ht
    split at ht
    · rename_i hu
      obtain ⟨m, e, _⟩ := DataW.trod_bool hu h
      exact ⟨m, e⟩
    · cases ht
  | .slice s => by
    refine ⟨fun t ht n cs x _ h => ?_, fun l off cs h _ _ => by unfold isR at h; cases h⟩
    unfold isT at ht
    split at ht
    · rename_i e hu
      simp only [Bool.and_eq_true, beq_iff_eq, decide_eq_true_eq] at ht
      obtain ⟨⟨hc, hp⟩, hs⟩ := ht
      have ih := (tt en P w base held s).1 e hs
      have : Inhabited {r : List Value // r.length = s.size} := ⟨⟨List.replicate s.size undef, by simp⟩⟩
      have key : ∀ a len cap, cs = [.slice a len cap] → Rep (.slice s) w.heap cs := fun a len cap e0 => by
        subst e0
        obtain ⟨l, hq, hl, hg⟩ := open_seq (α := {r : List Value // r.length = s.size}) (enc := Subtype.val) (good := fun r => Rep s w.heap r.1) hu hc hp (fun x => x.2) (fun m cs x hlen hx => ⟨⟨cs, hlen⟩, rfl, ih m cs x hlen hx⟩) (a := a) (len := len) (cap := cap) (by simpa [Value.cells] using h)
        exact ⟨_, l, rfl, hq, hl, hg⟩
      rcases Deep.open_slice hu h with ⟨e0, _⟩ | ⟨a, len, cap, _, _, _, _, e0, _⟩
      · exact key _ _ _ e0
      · exact key _ _ _ e0
    · cases ht
  | .agg r => by
    refine ⟨fun t ht n cs x hl h => ?_, fun l off cs h _ _ => by unfold isR at h; cases h⟩
    unfold isT at ht
    simp only [Bool.and_eq_true, beq_iff_eq] at ht
    obtain ⟨hc, ht⟩ := ht
    have ih := (tt en P w base held r).2
    split at ht
    · rename_i fs hu
      obtain ⟨xs, m, _, _, _, hlen, hf⟩ := DataW.trod_struct hu h
      have := ih _ 0 cs ht (by rw [hl]; simp [Shape.size]) (fun p hp => by
        obtain ⟨f, hf1, rfl⟩ := List.mem_map.1 hp
        obtain ⟨i, hi, rfl⟩ := List.getElem_of_mem hf1
        have hi' : i < fs.size := by simpa using hi
        have := hf i fs[i] (by simp [hi'])
        refine ⟨m, xs[i]'(by omega), ?_⟩
        simp only [Array.getElem_toList]
        rw [this]; simp [hlen, hi'])
      simpa [Rep] using this
    · rename_i k e hu
      obtain ⟨xs, m, _, _, _, hlen, hf⟩ := DataW.trod_array hu h
      have := ih _ 0 cs ht (by rw [hl]; simp [Shape.size]) (fun p hp => by
        obtain ⟨i, hi, rfl⟩ := List.mem_map.1 hp
        have hi' : i < k := List.mem_range.1 hi
        refine ⟨m, xs[i]'(by omega), ?_⟩
        simp only
        rw [hf i hi']; simp [hlen, hi'])
      simpa [Rep] using this
    · cases ht
  | .nil => by
    refine ⟨fun t ht => (by unfold isT at ht; cases ht), fun l off cs h hl _ => ?_⟩
    have : cs.drop off = [] := List.drop_eq_nil_of_le (by simp [Shape.size] at hl; omega)
    exact this
  | .cons s r => by
    refine ⟨fun t ht => (by unfold isT at ht; cases ht), fun l off cs h hl hp => ?_⟩
    cases l with
    | nil => unfold isR at h; cases h
    | cons p l =>
      obtain ⟨o, t⟩ := p
      unfold isR at h
      simp only [Bool.and_eq_true, beq_iff_eq] at h
      obtain ⟨⟨⟨rfl, hc⟩, hs⟩, hr⟩ := h
      obtain ⟨n, x, hx⟩ := hp (o, t) List.mem_cons_self
      simp only [Shape.size] at hl
      rw [hc] at hx
      have h1 := (tt en P w base held s).1 t hs n _ x (by rw [List.length_take, List.length_drop]; omega) hx
      have h2 := (tt en P w base held r).2 l (o + s.size) cs hr (by omega) (fun p hp' => hp p (List.mem_cons_of_mem _ hp'))
      refine ⟨(cs.drop o).take s.size, cs.drop (o + s.size), ?_, h1, h2⟩
      rw [← List.drop_drop, List.take_append_drop]

/-- An argument that is no struct. -/
theorem rep_cell {s : Shape} {t : TypeId} {v : Value} {d : DataW H} {p : List MemPlace} (ht : isT P s t = true) (hc : v.cells.toList.length = s.size) (h : DataW.Trod en P w base (fun _ => true) held t v d p) : Rep s w.heap v.cells.toList := by
  obtain ⟨n, h⟩ := h
  exact (tt en P w base held s).1 t ht n _ _ hc h
theorem rep_slice {s : Shape} {t : TypeId} {r : Reach} {b0 : Nat} {v : Value} {d : DataW H} {p : List MemPlace} (ht : isT P (.slice s) t = true) (hv : Value.okWide P w r b0 t v) (h : DataW.Trod en P w base (fun _ => true) held t v d p) : Rep (.slice s) w.heap [v] := by
  have hu : ∃ e, P.underlying t = some (.slice e) := by
    unfold isT at ht
    split at ht
    · rename_i e hu; exact ⟨e, hu⟩
    · cases ht
  obtain ⟨e, hu⟩ := hu
  obtain ⟨a, len, cap, rfl⟩ := WideShapes.okWide_slice hu hv
  have := rep_cell ht (by simp [Value.cells, Shape.size]) h
  simpa [Value.cells] using this
theorem rep_agg {s : Shape} {t : TypeId} {r : Reach} {b0 : Nat} {v : Value} {d : DataW H} {p : List MemPlace} (ht : isT P (.agg s) t = true) (hv : Value.okWide P w r b0 t v) (h : DataW.Trod en P w base (fun _ => true) held t v d p) : ∃ cs : List Value, v = .agg cs.toArray ∧ Rep (.agg s) w.heap cs := by
  have hu : (∃ fs, P.underlying t = some (.struct fs)) ∨ ∃ n e, P.underlying t = some (.array n e) := by
    unfold isT at ht
    simp only [Bool.and_eq_true] at ht
    have ht := ht.2
    split at ht
    · rename_i fs hu; exact .inl ⟨fs, hu⟩
    · rename_i n e hu; exact .inr ⟨n, e, hu⟩
    · cases ht
  have hc : P.cellsOf t = s.size := by
    unfold isT at ht
    simp only [Bool.and_eq_true, beq_iff_eq] at ht
    exact ht.1
  have : ∃ cs : Array Value, v = .agg cs ∧ cs.size = P.cellsOf t := by
    rcases hu with ⟨fs, hu⟩ | ⟨n, e, hu⟩
    · exact WideShapes.okWide_struct hu hv
    · simp only [Value.okWide, hu] at hv
      obtain ⟨cs, h1, h2, _⟩ := hv
      exact ⟨cs, h1, h2⟩
  obtain ⟨cs, rfl, hsz⟩ := this
  have := rep_cell ht (by simp [Value.cells, Shape.size]; omega) h
  exact ⟨cs.toList, by simp, by simpa [Value.cells] using this⟩

/-- The elements of a slice, by a type of one's own. -/
theorem Rep.rows {α : Type} {enc : α → List Value} {good : α → Prop} {s : Shape} {h : Heap} {v : Value} (x : Rep (.slice s) h [v]) (he : ∀ r : List Value, r.length = s.size → Rep s h r → ∃ y : α, r = enc y ∧ good y) :
    ∃ l : List α, Seq enc s.size h v l ∧ l.length ≤ maxLen ∧ ∀ y ∈ l, good y := by
  obtain ⟨v', rows, e, hq, hl, hr⟩ := x
  cases e
  have : ∀ rows : List {r : List Value // r.length = s.size}, (∀ r ∈ rows, Rep s h r.1) → ∃ l : List α, rows.map Subtype.val = l.map enc ∧ ∀ y ∈ l, good y := by
    intro rows
    induction rows with
    | nil => exact fun _ => ⟨[], rfl, by simp⟩
    | cons r rows ih =>
      intro hr
      obtain ⟨y, e, hy⟩ := he r.1 r.2 (hr r List.mem_cons_self)
      obtain ⟨l, e2, hl⟩ := ih fun r hr' => hr r (List.mem_cons_of_mem _ hr')
      refine ⟨y :: l, by rw [List.map_cons, List.map_cons, e, e2], fun z hz => ?_⟩
      rcases List.mem_cons.1 hz with rfl | hz
      · exact hy
      · exact hl z hz
  obtain ⟨l, e, hg⟩ := this rows hr
  have hlen : l.length = rows.length := by have := congrArg List.length e; simpa using this.symm
  refine ⟨l, ?_, by omega, hg⟩
  obtain ⟨a, n, m, rfl, hn, hm, hd⟩ := hq
  refine ⟨a, n, m, rfl, by omega, hm, ?_⟩
  rcases hd with hd | ⟨b, o, rfl, hb, hc⟩
  · exact .inl hd
  · refine .inr ⟨b, o, rfl, hb, fun j x hj => ?_⟩
    have hj' := (List.getElem?_eq_some_iff.1 hj).1
    have : (rows.map Subtype.val)[j]? = (l.map enc)[j]? := by rw [e]
    rw [List.getElem?_map, List.getElem?_map, hj, List.getElem?_eq_getElem (by omega)] at this
    simp only [Option.map_some, Option.some.injEq] at this
    have := hc j (rows[j]'(by omega)) (List.getElem?_eq_getElem (by omega))
    simp_all
theorem Rep.ints {k : IntKind} {h : Heap} {v : Value} (x : Rep (.slice (.int k)) h [v]) : ∃ l : List Int, Ints k h v l ∧ l.length ≤ maxLen ∧ ∀ n ∈ l, (Lit.int k n).wf = true :=
  x.rows fun r _ ⟨n, e, hw⟩ => ⟨n, e, hw⟩
end
end Go.HW

end

section
/- Bits of whole numbers. -/
namespace Go.HW
open Go

/-- What filling comes to, for the kernel. -/
def fillR : Array Value → List (Nat × Nat × Value) → Option (Array Value)
  | cs, [] => some cs
  | cs, (o, n, v) :: r => if v.cells.size = n ∧ o + n ≤ cs.size then fillR (putRow cs o v.cells.toList) r else none
theorem fill_k : ∀ {ps : List (Nat × Nat × Value)} {z cs : Array Value}, fillR z ps = some cs → sFill z ps fun d => d = cs
  | [], z, cs, h => by simp [fillR] at h; exact h
  | (o, n, v) :: r, z, cs, h => by
    unfold fillR at h
    split at h
    · rename_i hc; exact ⟨hc.1, hc.2, fill_k h⟩
    · cases h

abbrev bv (n : Int) : BitVec 64 := BitVec.ofInt 64 n
theorem bv_wrap (n : Nat) (hn : n < 2 ^ 64) : bv (IntKind.i64.wrap (n : Int)) = BitVec.ofNat 64 n := by
  unfold IntKind.wrap
  simp only [IntKind.signed, IntKind.bits, Bool.true_and]
  apply BitVec.eq_of_toNat_eq
  rw [BitVec.toNat_ofInt, BitVec.toNat_ofNat]
  split <;> omega
theorem bv_of (x : BitVec 64) : bv (IntKind.i64.wrap (x.toNat : Int)) = x := by
  rw [bv_wrap _ (BitVec.isLt _)]; simp
theorem bv_and (a b : Int) : bv (bitsOf .and .i64 a b) = bv a &&& bv b := bv_of _
theorem bv_or (a b : Int) : bv (bitsOf .or .i64 a b) = bv a ||| bv b := bv_of _
theorem bv_xor (a b : Int) : bv (bitsOf .xor .i64 a b) = bv a ^^^ bv b := bv_of _
theorem bv_andNot (a b : Int) : bv (bitsOf .andNot .i64 a b) = bv a &&& ~~~(bv b) := bv_of _
/-- Numbers of the kind are told by their bits. -/
theorem bv_inj {a b : Int} (ha : -9223372036854775808 ≤ a ∧ a ≤ 9223372036854775807) (hb : -9223372036854775808 ≤ b ∧ b ≤ 9223372036854775807) (h : bv a = bv b) : a = b := by
  have := congrArg BitVec.toInt h
  rw [BitVec.toInt_ofInt, BitVec.toInt_ofInt] at this
  simp only [Int.bmod] at this
  split at this <;> split at this <;> omega
theorem wrap_rng (x : Int) : -9223372036854775808 ≤ IntKind.i64.wrap x ∧ IntKind.i64.wrap x ≤ 9223372036854775807 := by
  unfold IntKind.wrap
  simp only [IntKind.signed, IntKind.bits, Bool.true_and]
  have h1 : 0 ≤ x % 2 ^ 64 := Int.emod_nonneg _ (by decide)
  have h2 : x % 2 ^ 64 < 2 ^ 64 := Int.emod_lt_of_pos _ (by decide)
  have e : ∀ d : Bool, (d = true ↔ x % 2 ^ 64 ≥ 2 ^ (64 - 1)) → (-9223372036854775808 ≤ (if d = true then x % 2 ^ 64 - 2 ^ 64 else x % 2 ^ 64) ∧ (if d = true then x % 2 ^ 64 - 2 ^ 64 else x % 2 ^ 64) ≤ 9223372036854775807) := by
    intro d hd
    have e1 : (2 : Int) ^ (64 - 1) = 9223372036854775808 := by decide
    rw [e1] at hd
    split
    · rename_i h; have := hd.1 h; omega
    · rename_i h; have := mt hd.2 h; omega
  exact e _ (by simp)
theorem bits_rng (op : BinOp) (a b : Int) : -9223372036854775808 ≤ bitsOf op .i64 a b ∧ bitsOf op .i64 a b ≤ 9223372036854775807 := by
  unfold bitsOf; split <;> exact wrap_rng _
/-- Has a number the flag? -/
def hasB (n f : Int) : Bool := bitsOf .and .i64 n f != 0
theorem hasB_bit (n f : Int) (k : Nat) (hk : k < 64) (hf : bv f = BitVec.twoPow 64 k) : hasB n f = (bv n).getLsbD k := by
  have h0 : hasB n f = true ↔ bv n &&& bv f ≠ 0#64 := by
    unfold hasB
    rw [bne_iff_ne, ne_eq, ne_eq]
    refine not_congr ⟨fun h => by rw [← bv_and, h]; rfl, fun h => ?_⟩
    rw [← bv_and] at h
    exact bv_inj (bits_rng _ _ _) (by omega) (by rw [h]; rfl)
  rw [Bool.eq_iff_iff, h0, hf]
  constructor
  · intro h
    cases hb : (bv n).getLsbD k with
    | true => rfl
    | false =>
      refine absurd ?_ h
      apply BitVec.eq_of_getLsbD_eq
      intro i hi
      rw [BitVec.getLsbD_and, BitVec.getLsbD_twoPow]
      by_cases e : k = i
      · subst e; simp [hb]
      · simp [e]
  · intro h e
    have := congrArg (fun x : BitVec 64 => x.getLsbD k) e
    rw [BitVec.getLsbD_and, BitVec.getLsbD_twoPow, h] at this
    simp [hk] at this
theorem and_small (n f : Int) (h0 : 0 ≤ f) (h1 : f < 9223372036854775808) : 0 ≤ bitsOf .and .i64 n f ∧ bitsOf .and .i64 n f ≤ f := by
  have h2 : (bv n &&& bv f).toNat ≤ f.toNat := by
    rw [BitVec.toNat_and]
    refine Nat.le_trans Nat.and_le_right ?_
    rw [BitVec.toNat_ofInt]; omega
  show 0 ≤ IntKind.i64.wrap ((bv n &&& bv f).toNat : Int) ∧ _
  have h3 : bitsOf .and .i64 n f = ((bv n &&& bv f).toNat : Int) := by
    show IntKind.i64.wrap ((bv n &&& bv f).toNat : Int) = _
    rw [wrap_i64 (by omega) (by omega)]
  rw [h3]
  rw [wrap_i64 (by omega) (by omega)]
  omega
theorem and_127 : ∀ c : Int, 0 ≤ c → c < 256 → bitsOf .and .u8 c 127 = c % 128 := by
  intro c h0 h1
  have key : ∀ n : Fin 256, bitsOf .and .u8 (n.val : Int) 127 = (n.val : Int) % 128 := by decide +kernel
  have := key ⟨c.toNat, by omega⟩
  simp only at this
  rwa [Int.toNat_of_nonneg h0] at this
end Go.HW

end

section
/- copy into a part of a slice of one's own. -/
namespace Go.HW
open Go

section
variable {α : Type} {enc : α → List Value} {sz : Nat} {h0 h : Heap} {F : List HP} {v : Value} {l : List α}
/-- Elements set from a place on. -/
def setAll (l : List α) (p : Nat) : List α → List α
  | [] => l
  | s :: r => setAll (l.set p s) (p + 1) r
theorem setAll_len : ∀ (src : List α) (l : List α) (p : Nat), (setAll l p src).length = l.length
  | [], _, _ => rfl
  | s :: r, l, p => by rw [setAll, setAll_len r]; simp
theorem puts_app : ∀ (a b : List Value) (h : Heap) (k o : Nat), h.puts k o (a ++ b) = (h.puts k o a).puts k (o + a.length) b
  | [], b, h, k, o => rfl
  | x :: a, b, h, k, o => by
    show (h.put k o x).puts k (o + 1) (a ++ b) = ((h.put k o x).puts k (o + 1) a).puts k (o + (a.length + 1)) b
    rw [puts_app a b]; congr 1; omega
theorem eltP_next {j : Nat} {b o : Nat} (e : eltP v j sz = ptr b o) : eltP v (j + 1) sz = ptr b (o + sz) := by
  unfold eltP at *
  split at e
  · rename_i a n c
    have e1 : a.block = b ∧ a.off + j * sz = o := by
      unfold ptr at e
      simp only [Value.pointer.injEq, Option.some.injEq, Addr.mk.injEq] at e
      exact ⟨e.1, e.2.1⟩
    show ptr a.block (a.off + (j + 1) * sz) = ptr b (o + sz)
    rw [e1.1, ← e1.2, Nat.add_mul, Nat.one_mul, Nat.add_assoc]
  · unfold ptr undef at e; cases e
theorem Sep.puts' (hs : ∀ x, (enc x).length = sz) (h1 : ∀ x, ∀ u ∈ enc x, Cell1 u) : ∀ (src : List α) (h : Heap) (l : List α) (p b o : Nat), Sep h0 (Sl enc sz v l :: F) h → p + src.length ≤ l.length → (src ≠ [] → eltP v p sz = ptr b o) → Sep h0 (Sl enc sz v (setAll l p src) :: F) (h.puts b o (src.flatMap enc))
  | [], h, l, p, b, o, s, _, _ => s
  | x :: r, h, l, p, b, o, s, hp, he => by
    have e := he (by simp)
    simp only [List.length_cons] at hp
    have k := s.setn hs h1 (j := p) (by omega) x (K := fun h' => Sep h0 (Sl enc sz v (l.set p x) :: F) h') (fun h' s' => s')
    obtain ⟨b', o', cs, e1, e2, _, _, _, k⟩ := k
    rw [e] at e1
    cases e1
    cases e2
    have k : Sep h0 (Sl enc sz v (l.set p x) :: F) (h.puts b o (enc x)) := by simpa using k
    rw [List.flatMap_cons, puts_app, hs]
    show Sep h0 (Sl enc sz v (setAll (l.set p x) (p + 1) r) :: F) _
    exact Sep.puts' hs h1 r _ _ (p + 1) b (o + sz) k (by simp; omega) (fun _ => eltP_next e)
theorem Sep.copy {y : Value} {src : List α} {i j : Nat} {K : Value → Heap → Prop} (s : Sep h0 (Sl enc sz v l :: F) h) (hs : ∀ x, (enc x).length = sz) (h1 : ∀ x, ∀ u ∈ enc x, Cell1 u) (q : Seq enc sz h y src) (h0' : 0 < src.length) (hij : i + src.length ≤ j) (hj : j ≤ l.length) (H : ∀ h', Sep h0 (Sl enc sz v (setAll l i src) :: F) h' → K (.int .i64 src.length) h') : sCopy h (cutP v i j sz) y sz K := by
  obtain ⟨k, o⟩ := s.own
  rcases o with ⟨_, _, rfl⟩ | ⟨b, p, n, m, c, t, _, rfl, hn, hm, hb, hc, hcc⟩
  · simp at hj; omega
  · have hmin : min src.length (j - i) = src.length := by omega
    have hbase : cutP (.slice (some ⟨b, p, none⟩) n m) i j sz = .slice (some ⟨b, p + i * sz, none⟩) (j - i) (m - i) := by
      simp only [cutP, cutV]
      rw [if_neg (show ¬ m = i by omega)]
      simp only [Option.map_some, Addr.add]
      split
      · rename_i h0; rw [h0]; rfl
      · rfl
    rw [hbase]
    have hsz : (src.flatMap enc).length = src.length * sz := length_flat hs src
    refine ⟨_, j - i, _, src.length, (src.flatMap enc).toArray, rfl, q.lenV, ?_, ?_, ?_, ?_⟩
    · rw [hmin]; exact q.rowOf hs
    · rw [hmin]; simpa using hsz
    · intro u hu
      simp only [List.mem_flatMap] at hu
      obtain ⟨x, _, hx⟩ := hu
      exact h1 x u hx
    · rw [hmin]
      have hle : (i + src.length) * sz ≤ m * sz := Nat.mul_le_mul_right _ (by omega)
      rw [Nat.add_mul] at hle
      refine .inr ⟨b, p + i * sz, rfl, hb.fits (by omega), ?_⟩
      refine H _ ?_
      have := Sep.puts' hs h1 src h l i b (p + i * sz) s (by omega) (fun _ => rfl)
      exact this
end
end Go.HW

end
