/- What the words come to, on values that are known. -/
import Derived.Test.YtbgipcikkedloaaHwOps6
namespace Go.HW
open Go

section
variable {K : Value → Prop} {KH : Value → Heap → Prop} {h : Heap} {b o n : Nat}
@[simp] theorem ev_nil : sNil (ptr b o) K = K (ptr b o) := propext ⟨fun x => x.2, fun x => ⟨⟨b, o, rfl⟩, x⟩⟩
@[simp] theorem ev_off : sOff (ptr b o) n K = K (ptr b (o + n)) :=
  propext ⟨fun ⟨b', o', e, x⟩ => by cases e; exact x, fun x => ⟨b, o, rfl, x⟩⟩
@[simp] theorem ev_ld : sLd h (ptr b o) K = (match h.at b o with | some v => K v | none => False) := by
  cases e : h.at b o with
  | none => exact propext ⟨fun ⟨b', o', v, e1, e2, _⟩ => (by cases e1; rw [e] at e2; cases e2), fun x => x.elim⟩
  | some u => exact propext ⟨fun ⟨b', o', v, e1, e2, x⟩ => by cases e1; rw [e] at e2; cases e2; exact x, fun x => ⟨b, o, u, rfl, e, x⟩⟩
theorem ev_st {v : Value} {K : Heap → Prop} (h1 : (h.at b o).isSome = true) (h2 : h.cold b o = true) (h3 : Cell1 v) : sSt h (ptr b o) v K = K (h.put b o v) :=
  propext ⟨fun ⟨b', o', e, _, _, _, x⟩ => by cases e; exact x, fun x => ⟨b, o, rfl, h1, h2, h3, x⟩⟩
@[simp] theorem ev_cmp {f : Int → Int → Bool} {k : IntKind} {x y : Int} : sCmp f (.int k x) (.int k y) K = K (.bool (f x y)) :=
  propext ⟨fun ⟨k', a, b, e1, e2, x⟩ => by cases e1; cases e2; exact x, fun x => ⟨k, _, _, rfl, rfl, x⟩⟩
@[simp] theorem ev_lt {k : IntKind} {x y : Int} : sLt (.int k x) (.int k y) K = K (.bool (decide (x < y))) := ev_cmp
@[simp] theorem ev_le {k : IntKind} {x y : Int} : sLe (.int k x) (.int k y) K = K (.bool (decide (x ≤ y))) := ev_cmp
@[simp] theorem ev_gt {k : IntKind} {x y : Int} : sGt (.int k x) (.int k y) K = K (.bool (decide (y < x))) := ev_cmp
@[simp] theorem ev_ge {k : IntKind} {x y : Int} : sGe (.int k x) (.int k y) K = K (.bool (decide (y ≤ x))) := ev_cmp
@[simp] theorem ev_eq {k : IntKind} {x y : Int} : sEq (.int k x) (.int k y) K = K (.bool (x == y)) := ev_cmp
@[simp] theorem ev_ne {k : IntKind} {x y : Int} : sNe (.int k x) (.int k y) K = K (.bool (x != y)) := ev_cmp
@[simp] theorem ev_ar {f : Int → Int → Int} {k : IntKind} {x y : Int} : sAr f k (.int k x) (.int k y) K = K (.int k (k.wrap (f x y))) :=
  propext ⟨fun ⟨a, b, e1, e2, x⟩ => by cases e1; cases e2; exact x, fun x => ⟨_, _, rfl, rfl, x⟩⟩
@[simp] theorem ev_add {k : IntKind} {x y : Int} : sAdd k (.int k x) (.int k y) K = K (.int k (k.wrap (x + y))) := ev_ar
@[simp] theorem ev_sub {k : IntKind} {x y : Int} : sSub k (.int k x) (.int k y) K = K (.int k (k.wrap (x - y))) := ev_ar
@[simp] theorem ev_mul {k : IntKind} {x y : Int} : sMul k (.int k x) (.int k y) K = K (.int k (k.wrap (x * y))) := ev_ar
theorem ev_quo {k : IntKind} {x y : Int} (h0 : y ≠ 0) : sQuo k (.int k x) (.int k y) K = K (.int k (k.wrap (x.tdiv y))) :=
  propext ⟨fun ⟨a, b, e1, e2, _, x⟩ => by cases e1; cases e2; exact x, fun x => ⟨_, _, rfl, rfl, h0, x⟩⟩
theorem ev_rem {k : IntKind} {x y : Int} (h0 : y ≠ 0) : sRem k (.int k x) (.int k y) K = K (.int k (x.tmod y)) :=
  propext ⟨fun ⟨a, b, e1, e2, _, x⟩ => by cases e1; cases e2; exact x, fun x => ⟨_, _, rfl, rfl, h0, x⟩⟩
@[simp] theorem ev_bits {op : BinOp} {k : IntKind} {x y : Int} : sBits op k (.int k x) (.int k y) K = K (.int k (bitsOf op k x y)) :=
  propext ⟨fun ⟨a, b, e1, e2, x⟩ => by cases e1; cases e2; exact x, fun x => ⟨_, _, rfl, rfl, x⟩⟩
@[simp] theorem ev_conv {k j : IntKind} {x : Int} : sConv k (.int j x) K = K (.int k (k.wrap x)) :=
  propext ⟨fun ⟨a, b, e1, x⟩ => by cases e1; exact x, fun x => ⟨_, _, rfl, x⟩⟩
@[simp] theorem ev_neg {k : IntKind} {x : Int} : sNeg k (.int k x) K = K (.int k (k.wrap (0 - x))) :=
  propext ⟨fun ⟨a, e1, x⟩ => by cases e1; exact x, fun x => ⟨_, rfl, x⟩⟩
@[simp] theorem ev_min {k : IntKind} {x y : Int} : sMin (.int k x) (.int k y) K = K (.int k (if y < x then y else x)) :=
  propext ⟨fun ⟨k', a, b, e1, e2, x⟩ => by cases e1; cases e2; exact x, fun x => ⟨_, _, _, rfl, rfl, x⟩⟩
@[simp] theorem ev_max {k : IntKind} {x y : Int} : sMax (.int k x) (.int k y) K = K (.int k (if x < y then y else x)) :=
  propext ⟨fun ⟨k', a, b, e1, e2, x⟩ => by cases e1; cases e2; exact x, fun x => ⟨_, _, _, rfl, rfl, x⟩⟩
@[simp] theorem ev_not {x : Bool} : sNot (.bool x) K = K (.bool !x) :=
  propext ⟨fun ⟨a, e1, x⟩ => by cases e1; exact x, fun x => ⟨_, rfl, x⟩⟩
@[simp] theorem ev_if {x : Bool} {A B : Prop} : sIf (.bool x) A B = (if x = true then A else B) := by
  cases x
  · exact propext ⟨fun ⟨_, e, _, f⟩ => by cases e; exact f rfl, fun f => ⟨false, rfl, fun e => by (cases e), fun _ => f⟩⟩
  · exact propext ⟨fun ⟨_, e, f, _⟩ => by cases e; exact f rfl, fun f => ⟨true, rfl, fun _ => f, fun e => by cases e⟩⟩
@[simp] theorem ev_eqlB {x y : Bool} : sEqlB (.bool x) (.bool y) K = K (.bool (x == y)) :=
  propext ⟨fun ⟨a, b, e1, e2, x⟩ => by cases e1; cases e2; exact x, fun x => ⟨_, _, rfl, rfl, x⟩⟩
@[simp] theorem ev_neqB {x y : Bool} : sNeqB (.bool x) (.bool y) K = K (.bool (!(x == y))) :=
  propext ⟨fun ⟨a, b, e1, e2, x⟩ => by cases e1; cases e2; exact x, fun x => ⟨_, _, rfl, rfl, x⟩⟩
@[simp] theorem ev_eqlNil {x : Option Addr} : sEqlNil (.pointer x) K = K (.bool x.isNone) :=
  propext ⟨fun ⟨a, e1, x⟩ => by cases e1; exact x, fun x => ⟨_, rfl, x⟩⟩
@[simp] theorem ev_neqNil {x : Option Addr} : sNeqNil (.pointer x) K = K (.bool (!x.isNone)) :=
  propext ⟨fun ⟨a, e1, x⟩ => by cases e1; exact x, fun x => ⟨_, rfl, x⟩⟩
@[simp] theorem ev_eqlNilS {x : Option Addr} {m c : Nat} : sEqlNilS (.slice x m c) K = K (.bool x.isNone) :=
  propext ⟨fun ⟨_, _, _, e1, x⟩ => by cases e1; exact x, fun x => ⟨_, _, _, rfl, x⟩⟩
@[simp] theorem ev_neqNilS {x : Option Addr} {m c : Nat} : sNeqNilS (.slice x m c) K = K (.bool (!x.isNone)) :=
  propext ⟨fun ⟨_, _, _, e1, x⟩ => by cases e1; exact x, fun x => ⟨_, _, _, rfl, x⟩⟩
@[simp] theorem ev_len {x : Option Addr} {m c : Nat} : sLen (.slice x m c) K = K (.int .i64 m) :=
  propext ⟨fun ⟨_, _, _, e1, x⟩ => by cases e1; exact x, fun x => ⟨_, _, _, rfl, x⟩⟩
@[simp] theorem ev_lenb {s : ByteArray} : sLenB (.string s) K = K (.int .i64 s.size) :=
  propext ⟨fun ⟨_, e1, x⟩ => by cases e1; exact x, fun x => ⟨_, rfl, x⟩⟩
@[simp] theorem ev_tup {vs : Array Value} {i : Nat} : sTup (.tuple vs) i K = (match vs[i]? with | some v => K v | none => False) := by
  cases e : vs[i]? with
  | none => exact propext ⟨fun ⟨vs', v, e1, e2, _⟩ => (by cases e1; rw [e] at e2; cases e2), fun x => x.elim⟩
  | some u => exact propext ⟨fun ⟨vs', v, e1, e2, x⟩ => by cases e1; rw [e] at e2; cases e2; exact x, fun x => ⟨vs, u, rfl, e, x⟩⟩
@[simp] theorem ev_fld {vs : Array Value} {i : Nat} : sFld (.agg vs) i K = (match vs[i]? with | some v => K v | none => False) := by
  cases e : vs[i]? with
  | none => exact propext ⟨fun ⟨vs', v, e1, e2, _⟩ => (by cases e1; rw [e] at e2; cases e2), fun x => x.elim⟩
  | some u => exact propext ⟨fun ⟨vs', v, e1, e2, x⟩ => by cases e1; rw [e] at e2; cases e2; exact x, fun x => ⟨vs, u, rfl, e, x⟩⟩
@[simp] theorem ev_fldn {vs : Array Value} {i m : Nat} : sFldN (.agg vs) i m K = K (.agg (vs.extract i (i + m))) :=
  propext ⟨fun ⟨_, e1, x⟩ => by cases e1; exact x, fun x => ⟨_, rfl, x⟩⟩
@[simp] theorem ev_and {x : Bool} {M : (Value → Prop) → Prop} : sAnd (.bool x) M K = (if x = true then M K else K (.bool false)) := by
  cases x
  · exact propext ⟨fun ⟨_, e, _, f⟩ => by cases e; exact f rfl, fun f => ⟨false, rfl, fun e => by (cases e), fun _ => f⟩⟩
  · exact propext ⟨fun ⟨_, e, f, _⟩ => by cases e; exact f rfl, fun f => ⟨true, rfl, fun _ => f, fun e => by cases e⟩⟩
@[simp] theorem ev_or {x : Bool} {M : (Value → Prop) → Prop} : sOr (.bool x) M K = (if x = true then K (.bool true) else M K) := by
  cases x
  · exact propext ⟨fun ⟨_, e, f, _⟩ => by cases e; exact f rfl, fun f => ⟨false, rfl, fun _ => f, fun e => by cases e⟩⟩
  · exact propext ⟨fun ⟨_, e, _, f⟩ => by cases e; exact f rfl, fun f => ⟨true, rfl, fun e => by (cases e), fun _ => f⟩⟩
@[simp] theorem ev_andh {x : Bool} {M : (Value → Heap → Prop) → Prop} : sAndH (.bool x) h M KH = (if x = true then M KH else KH (.bool false) h) := by
  cases x
  · exact propext ⟨fun ⟨_, e, _, f⟩ => by cases e; exact f rfl, fun f => ⟨false, rfl, fun e => by (cases e), fun _ => f⟩⟩
  · exact propext ⟨fun ⟨_, e, f, _⟩ => by cases e; exact f rfl, fun f => ⟨true, rfl, fun _ => f, fun e => by cases e⟩⟩
@[simp] theorem ev_orh {x : Bool} {M : (Value → Heap → Prop) → Prop} : sOrH (.bool x) h M KH = (if x = true then KH (.bool true) h else M KH) := by
  cases x
  · exact propext ⟨fun ⟨_, e, f, _⟩ => by cases e; exact f rfl, fun f => ⟨false, rfl, fun _ => f, fun e => by cases e⟩⟩
  · exact propext ⟨fun ⟨_, e, _, f⟩ => by cases e; exact f rfl, fun f => ⟨true, rfl, fun e => by (cases e), fun _ => f⟩⟩
/-- Both sides of a guarded group end alike: one Bool. -/
@[simp] theorem if_same {x y : Bool} : (if x = true then K (.bool y) else K (.bool false)) = K (.bool (x && y)) := by cases x <;> simp
@[simp] theorem if_same' {x y : Bool} : (if x = true then K (.bool true) else K (.bool y)) = K (.bool (x || y)) := by cases x <;> simp
@[simp] theorem ev_new {z : Array Value} {t : TypeId} : sNew h z t KH = KH (ptr h.size 0) (h.push (.cells z t)) := rfl
@[simp] theorem ev_box {x : Value} {t : TypeId} : sBox h x t KH = KH (ptr h.size 0) (h.push (.cells x.cells t)) := rfl
@[simp] theorem ev_eqlAgg {xs ys : Array Value} {ks : List (Option IntKind)} (h1 : okC ks xs.toList) (h2 : okC ks ys.toList) : sEqlAgg (.agg xs) (.agg ys) ks K = K (.bool (eqVs xs.toList ys.toList)) :=
  propext ⟨fun ⟨_, _, e1, e2, _, _, x⟩ => by cases e1; cases e2; exact x, fun x => ⟨_, _, rfl, rfl, h1, h2, x⟩⟩
@[simp] theorem ev_neqAgg {xs ys : Array Value} {ks : List (Option IntKind)} (h1 : okC ks xs.toList) (h2 : okC ks ys.toList) : sNeqAgg (.agg xs) (.agg ys) ks K = K (.bool (!eqVs xs.toList ys.toList)) :=
  propext ⟨fun ⟨_, _, e1, e2, _, _, x⟩ => by cases e1; cases e2; exact x, fun x => ⟨_, _, rfl, rfl, h1, h2, x⟩⟩
theorem ev_ixs {b o m c : Nat} {k : IntKind} {j : Int} {sz : Nat} (h0 : 0 ≤ j) (h1 : j < m) : sIxS (.slice (some ⟨b, o, none⟩) m c) (.int k j) sz K = K (ptr b (o + j.toNat * sz)) :=
  propext ⟨fun ⟨_, _, _, _, _, _, e1, e2, _, _, x⟩ => by cases e1; cases e2; exact x, fun x => ⟨_, _, _, _, _, _, rfl, rfl, h0, h1, x⟩⟩
end

/-! ### Blocks -/
/-- Block b holds these cells. -/
def Heap.has (h : Heap) (b : Nat) (c : Array Value) (t : TypeId) : Prop := h[b]? = some (.cells c t (0, 0))
def Heap.upd (h : Heap) (b : Nat) (c : Array Value) (t : TypeId) : Heap := h.setIfInBounds b (.cells c t (0, 0))

section
variable {h : Heap} {b o t : Nat} {c : Array Value}
theorem Heap.has.lt (hb : h.has b c t) : b < h.size := (Array.getElem?_eq_some_iff.1 hb).1
theorem Heap.has.at (hb : h.has b c t) (o : Nat) : h.at b o = c[o]? := by unfold Heap.at; rw [show h[b]? = _ from hb]
theorem Heap.has.cold (hb : h.has b c t) (o : Nat) : h.cold b o = true := by unfold Heap.cold; rw [show h[b]? = _ from hb]; simp
theorem Heap.has.put (hb : h.has b c t) (o : Nat) (v : Value) : h.put b o v = h.upd b (c.setIfInBounds o v) t := by
  unfold Heap.put Heap.upd
  apply Array.ext_getElem?
  intro i
  rw [Array.getElem?_modify, Array.getElem?_setIfInBounds]
  by_cases e : b = i
  · subst e
    rw [if_pos rfl, if_pos rfl, if_pos hb.lt, show h[b]? = _ from hb]
    rfl
  · rw [if_neg e, if_neg e]
theorem Heap.has_upd (hb : b < h.size) (c : Array Value) (t : TypeId) : (h.upd b c t).has b c t := by
  unfold Heap.has Heap.upd; simp [hb]
theorem Heap.has_upd_ne {b' : Nat} {c' : Array Value} {t' : TypeId} (hb : h.has b c t) (hne : b' ≠ b) : (h.upd b' c' t').has b c t := by
  unfold Heap.has Heap.upd; rw [Array.getElem?_setIfInBounds_ne hne]; exact hb
@[simp] theorem Heap.upd_upd (c' : Array Value) (t' : TypeId) : (h.upd b c t).upd b c' t' = h.upd b c' t' := by
  unfold Heap.upd; simp
@[simp] theorem Heap.size_upd : (h.upd b c t).size = h.size := by unfold Heap.upd; simp
theorem Heap.has_push (x : Obj) (hb : h.has b c t) : Heap.has (h.push x) b c t := by
  unfold Heap.has at *
  have := (Array.getElem?_eq_some_iff.1 hb).1
  rw [Array.getElem?_push, if_neg (by omega)]; exact hb
theorem Heap.has_new (c : Array Value) (t : TypeId) : Heap.has (h.push (.cells c t)) h.size c t := by
  unfold Heap.has; simp
theorem ev_st_has {v : Value} {K : Heap → Prop} (hb : h.has b c t) (ho : o < c.size) (h3 : Cell1 v) : sSt h (ptr b o) v K = K (h.upd b (c.setIfInBounds o v) t) := by
  rw [ev_st (by rw [hb.at]; simp [ho]) (hb.cold o) h3, hb.put]
end
end Go.HW
