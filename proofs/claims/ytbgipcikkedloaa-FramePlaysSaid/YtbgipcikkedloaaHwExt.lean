/- Heaps that grew, and rows of numbers that were there before. -/
import Derived.Test.YtbgipcikkedloaaHwEval
import Derived.Below
import Derived.OpenShut
namespace Go.HW
open Go

section
variable {K : Value → Prop} {KH : Value → Heap → Prop} {h : Heap} {x y : Bool}
/-! A guarded group that has no effect: one Bool. -/
theorem ev_and_p : sAnd (.bool x) (fun k => k (.bool y)) K = K (.bool (x && y)) := by rw [ev_and]; cases x <;> simp
theorem ev_or_p : sOr (.bool x) (fun k => k (.bool y)) K = K (.bool (x || y)) := by rw [ev_or]; cases x <;> simp
theorem ev_andh_p : sAndH (.bool x) h (fun k => k (.bool y) h) KH = KH (.bool (x && y)) h := by rw [ev_andh]; cases x <;> simp
theorem ev_orh_p : sOrH (.bool x) h (fun k => k (.bool y) h) KH = KH (.bool (x || y)) h := by rw [ev_orh]; cases x <;> simp
end

/-- Old blocks are as they were. -/
structure Ext (h h' : Heap) : Prop where
  size : h.size ≤ h'.size
  same : ∀ i, i < h.size → h'[i]? = h[i]?

section
variable {h h' h'' : Heap} {b o t : Nat} {c : Array Value} {x : Obj} {v : Value}
theorem Ext.refl (h : Heap) : Ext h h := ⟨Nat.le_refl _, fun _ _ => rfl⟩
theorem Ext.trans (a : Ext h h') (b : Ext h' h'') : Ext h h'' := ⟨Nat.le_trans a.size b.size, fun i hi => (b.same i (Nat.lt_of_lt_of_le hi a.size)).trans (a.same i hi)⟩
theorem Ext.push (a : Ext h h') : Ext h (h'.push x) := by
  refine ⟨?_, fun i hi => ?_⟩
  · have := a.size; rw [Array.size_push]; omega
  · have := a.size
    rw [Array.getElem?_push, if_neg (by omega)]; exact a.same i hi
theorem Ext.upd (a : Ext h h') (hb : h.size ≤ b) : Ext h (h'.upd b c t) := by
  refine ⟨by rw [Heap.size_upd]; exact a.size, fun i hi => ?_⟩
  unfold Heap.upd
  rw [Array.getElem?_setIfInBounds_ne (by omega)]; exact a.same i hi
theorem Ext.put (a : Ext h h') (hb : h.size ≤ b) : Ext h (h'.put b o v) := by
  refine ⟨by unfold Heap.put; rw [Array.size_modify]; exact a.size, fun i hi => ?_⟩
  unfold Heap.put
  rw [Array.getElem?_modify, if_neg (by omega)]; exact a.same i hi
theorem Ext.at (a : Ext h h') (hb : b < h.size) : h'.at b o = h.at b o := by unfold Heap.at; rw [a.same b hb]
theorem Ext.has (a : Ext h h') (hb : h.has b c t) : h'.has b c t := by unfold Heap.has; rw [a.same b hb.lt]; exact hb
end

/-- The slice v bears these numbers. -/
def Nums (k : IntKind) (h : Heap) (v : Value) (z : List Int) : Prop :=
  ∃ a n m, v = .slice a n m ∧ z.length = n ∧ n ≤ m ∧ (n = 0 ∨ ∃ b o, a = some ⟨b, o, none⟩ ∧ b < h.size ∧ ∀ i, i < n → h.at b (o + i) = some (.int k (z.getD i 0)))

section
variable {h h' : Heap} {k : IntKind} {v : Value} {z : List Int} {K : Value → Prop}
theorem Nums.ext (a : Nums k h v z) (e : Ext h h') : Nums k h' v z := by
  obtain ⟨a, n, m, rfl, hn, hm, h0 | ⟨b, o, rfl, hb, hc⟩⟩ := a
  · exact ⟨_, _, _, rfl, hn, hm, .inl h0⟩
  · exact ⟨_, _, _, rfl, hn, hm, .inr ⟨b, o, rfl, Nat.lt_of_lt_of_le hb e.size, fun i hi => (e.at hb).trans (hc i hi)⟩⟩
theorem Nums.len (a : Nums k h v z) : sLen v K = K (.int .i64 z.length) := by
  obtain ⟨a, n, m, rfl, hn, _, _⟩ := a
  rw [ev_len, hn]
theorem Nums.get (a : Nums k h v z) {j : Int} {q : IntKind} (h0 : 0 ≤ j) (h1 : j < z.length) : sIxS v (.int q j) 1 (fun p => sLd h p K) = K (.int k (z.getD j.toNat 0)) := by
  obtain ⟨a, n, m, rfl, hn, hm, h2 | ⟨b, o, rfl, hb, hc⟩⟩ := a
  · omega
  · rw [ev_ixs h0 (by omega), ev_ld, Nat.mul_one, hc _ (by omega)]
end

theorem wrap_s {k : IntKind} {x : Int} (n : Nat) (hk : k.bits = n + 1) (hs : k.signed = true) (h0 : -(2 ^ n : Int) ≤ x) (h1 : x < (2 ^ n : Int)) : k.wrap x = x := by
  have e : (2 : Int) ^ (n + 1) = 2 * 2 ^ n := by rw [Int.pow_succ]; omega
  unfold IntKind.wrap
  rw [hk, hs, e, Nat.add_sub_cancel]
  generalize (2 : Int) ^ n = m at *
  simp only [Bool.true_and, decide_eq_true_eq, ge_iff_le]
  by_cases hx : 0 ≤ x
  · rw [Int.emod_eq_of_lt hx (by omega), if_neg (by omega)]
  · have : x % (2 * m) = x + 2 * m := by rw [← Int.add_emod_right, Int.emod_eq_of_lt (by omega) (by omega)]
    rw [this, if_pos (by omega)]; omega
theorem wrap_u {k : IntKind} {x : Int} (hs : k.signed = false) (h0 : 0 ≤ x) (h1 : x < (2 ^ k.bits : Int)) : k.wrap x = x := by
  unfold IntKind.wrap
  rw [hs]
  simp only [Bool.false_and, Bool.false_eq_true, if_false]
  exact Int.emod_eq_of_lt h0 h1
theorem wrap_i64 {x : Int} (h0 : -9223372036854775808 ≤ x) (h1 : x < 9223372036854775808) : IntKind.i64.wrap x = x := wrap_s 63 rfl rfl h0 h1
theorem wrap_u8 {x : Int} (h0 : 0 ≤ x) (h1 : x < 256) : IntKind.u8.wrap x = x := wrap_u rfl h0 h1
theorem wrap_u16 {x : Int} (h0 : 0 ≤ x) (h1 : x < 65536) : IntKind.u16.wrap x = x := wrap_u rfl h0 h1
theorem wrap_u32 {x : Int} (h0 : 0 ≤ x) (h1 : x < 4294967296) : IntKind.u32.wrap x = x := wrap_u rfl h0 h1

/-! A number that fits its kind. -/
theorem wf_int {k : IntKind} {x : Int} (h : (Lit.int k x).wf = true) : k.min ≤ x ∧ x ≤ k.max := by simpa [Lit.wf] using h
theorem wf_u8 {x : Int} (h : (Lit.int .u8 x).wf = true) : 0 ≤ x ∧ x < 256 := by have := wf_int h; simp [IntKind.min, IntKind.max, IntKind.signed, IntKind.bits] at this; omega
theorem wf_u16 {x : Int} (h : (Lit.int .u16 x).wf = true) : 0 ≤ x ∧ x < 65536 := by have := wf_int h; simp [IntKind.min, IntKind.max, IntKind.signed, IntKind.bits] at this; omega
theorem wf_u32 {x : Int} (h : (Lit.int .u32 x).wf = true) : 0 ≤ x ∧ x < 4294967296 := by have := wf_int h; simp [IntKind.min, IntKind.max, IntKind.signed, IntKind.bits] at this; omega
theorem wf_i64 {x : Int} (h : (Lit.int .i64 x).wf = true) : -9223372036854775808 ≤ x ∧ x ≤ 9223372036854775807 := by have := wf_int h; simp [IntKind.min, IntKind.max, IntKind.signed, IntKind.bits] at this; omega

/-- The frame of a law: no old block was touched. -/
theorem below_of {w w' : World} (e : Ext w.heap w'.heap) (k : Kept w w') : RowKit.Below w.heap.size w w' := ⟨k.os, k.tape, k.output, e.size, e.same⟩
theorem law_end {w w' : World} {e : Ending} (x : ret (fun v h' => v = .bool true ∧ Ext w.heap h') e w'.heap) (k : Kept w w') : e = .returned (.bool true) ∧ RowKit.Below w.heap.size w w' := by
  cases e with
  | returned v => exact ⟨by rw [x.1], below_of x.2 k⟩
  | _ => exact x.elim
/-- A slice of numbers, as the frames of the laws tell of it. -/
theorem nums_of {k : IntKind} {w : World} {a : Option Addr} {len cap : Nat} {zs : List Int}
    (H : (a = none ∧ len = 0 ∧ cap = 0 ∧ zs = []) ∨ ∃ x, a = some x ∧ len ≤ cap ∧ cap ≤ maxLen ∧ zs.length = cap ∧ (∀ i, i < zs.length → w.cell? (x.add i) = some (.int k (zs.getD i 0))) ∧ ∀ n ∈ zs, (Lit.int k n).wf = true) :
    Nums k w.heap (.slice a len cap) (zs.take len) := by
  rcases H with ⟨rfl, rfl, rfl, rfl⟩ | ⟨x, rfl, h1, h2, h3, h4, h5⟩
  · exact ⟨_, _, _, rfl, rfl, Nat.le_refl _, .inl rfl⟩
  · refine ⟨_, _, _, rfl, by rw [List.length_take]; omega, h1, ?_⟩
    by_cases h0 : len = 0
    · exact .inl h0
    · right
      have c0 := h4 0 (by omega)
      obtain ⟨b, o, sp⟩ := x
      have hs : sp = none := by
        simp [Addr.add, World.cell?] at c0
        split at c0
        · cases sp with
          | none => rfl
          | some _ => simp at c0
        · cases c0
      subst hs
      have hb : b < w.heap.size := by
        by_cases hb : b < w.heap.size
        · exact hb
        · simp [Addr.add, World.cell?, hb] at c0
      refine ⟨b, o, rfl, hb, fun i hi => ?_⟩
      have c := h4 i (by omega)
      have e : (Addr.mk b o none).add i = ⟨b, o + i, none⟩ := by unfold Addr.add; split <;> simp_all
      rw [e, cell_at rfl] at c
      rw [c]
      simp [List.getD_eq_getElem?_getD, hi]
theorem open_nums {H : Type} {enc : TypeId × Value → H} {P : Program} {w : World} {base : Nat} {held : Bool} {t e : TypeId} {k : IntKind} (ht : P.underlying t = some (.slice e)) (he : P.underlying e = some (.int k)) (hc : P.cellsOf e = 1)
    {fuel : Nat} {a : Option Addr} {len cap : Nat} {d : DataW H} {p : List MemPlace} (h : DataW.trod enc P w base (fun _ => true) held fuel t (Value.slice a len cap).cells.toList = some (d, p)) :
    ∃ z, Nums k w.heap (.slice a len cap) z ∧ z.length ≤ maxLen ∧ ∀ n ∈ z, (Lit.int k n).wf = true := by
  rcases ChangeShapes.open_ints ht he hc h with ⟨hcs, _⟩ | ⟨x, l, c, zs, hcs, _, hl, hm, hz, _, hcell, hwz⟩
  · simp [Value.cells] at hcs
    obtain ⟨rfl, rfl, rfl⟩ := hcs
    exact ⟨[], ⟨_, _, _, rfl, rfl, Nat.le_refl _, .inl rfl⟩, by simp, by simp⟩
  · simp [Value.cells] at hcs
    obtain ⟨rfl, rfl, rfl⟩ := hcs
    refine ⟨zs.take len, nums_of (.inr ⟨_, rfl, hl, hm, by simpa using hz, hcell, hwz⟩), by rw [List.length_take]; omega, fun n hn => hwz n (List.mem_of_mem_take hn)⟩
end Go.HW
