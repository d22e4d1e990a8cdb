/- Bits of whole numbers. -/
import Derived.Test.YtbgipcikkedloaaHwRep
import Derived.KernelRfl
namespace Go.HW
open Go

/-- What filling comes to, for the kernel. -/
def fillR : Array Value → List (Nat × Nat × Value) → Option (Array Value)
  | cs, [] => some cs
  | cs, (o, n, v) :: r => if v.cells.size = n ∧ o + n ≤ cs.size then fillR (putRow cs o v.cells.toList) r else none
theorem fill_k : ∀ {ps : List (Nat × Nat × Value)} {z cs : Array Value}, fillR z ps = some cs → sFill z ps fun d => d = cs
  | [], z, cs, h => by simp [fillR] at h; exact h
  | (o, n, v) :: r, z, cs, h => by
    unfold fillR at h
    split at h
    · rename_i hc; exact ⟨hc.1, hc.2, fill_k h⟩
    · cases h

abbrev bv (n : Int) : BitVec 64 := BitVec.ofInt 64 n
theorem bv_wrap (n : Nat) (hn : n < 2 ^ 64) : bv (IntKind.i64.wrap (n : Int)) = BitVec.ofNat 64 n := by
  unfold IntKind.wrap
  simp only [IntKind.signed, IntKind.bits, Bool.true_and]
  apply BitVec.eq_of_toNat_eq
  rw [BitVec.toNat_ofInt, BitVec.toNat_ofNat]
  split <;> omega
theorem bv_of (x : BitVec 64) : bv (IntKind.i64.wrap (x.toNat : Int)) = x := by
  rw [bv_wrap _ (BitVec.isLt _)]; simp
theorem bv_and (a b : Int) : bv (bitsOf .and .i64 a b) = bv a &&& bv b := bv_of _
theorem bv_or (a b : Int) : bv (bitsOf .or .i64 a b) = bv a ||| bv b := bv_of _
theorem bv_xor (a b : Int) : bv (bitsOf .xor .i64 a b) = bv a ^^^ bv b := bv_of _
theorem bv_andNot (a b : Int) : bv (bitsOf .andNot .i64 a b) = bv a &&& ~~~(bv b) := bv_of _
/-- Numbers of the kind are told by their bits. -/
theorem bv_inj {a b : Int} (ha : -9223372036854775808 ≤ a ∧ a ≤ 9223372036854775807) (hb : -9223372036854775808 ≤ b ∧ b ≤ 9223372036854775807) (h : bv a = bv b) : a = b := by
  have := congrArg BitVec.toInt h
  rw [BitVec.toInt_ofInt, BitVec.toInt_ofInt] at this
  simp only [Int.bmod] at this
  split at this <;> split at this <;> omega
theorem wrap_rng (x : Int) : -9223372036854775808 ≤ IntKind.i64.wrap x ∧ IntKind.i64.wrap x ≤ 9223372036854775807 := by
  unfold IntKind.wrap
  simp only [IntKind.signed, IntKind.bits, Bool.true_and]
  have h1 : 0 ≤ x % 2 ^ 64 := Int.emod_nonneg _ (by decide)
  have h2 : x % 2 ^ 64 < 2 ^ 64 := Int.emod_lt_of_pos _ (by decide)
  have e : ∀ d : Bool, (d = true ↔ x % 2 ^ 64 ≥ 2 ^ (64 - 1)) → (-9223372036854775808 ≤ (if d = true then x % 2 ^ 64 - 2 ^ 64 else x % 2 ^ 64) ∧ (if d = true then x % 2 ^ 64 - 2 ^ 64 else x % 2 ^ 64) ≤ 9223372036854775807) := by
    intro d hd
    have e1 : (2 : Int) ^ (64 - 1) = 9223372036854775808 := by decide
    rw [e1] at hd
    split
    · rename_i h; have := hd.1 h; omega
    · rename_i h; have := mt hd.2 h; omega
  exact e _ (by simp)
theorem bits_rng (op : BinOp) (a b : Int) : -9223372036854775808 ≤ bitsOf op .i64 a b ∧ bitsOf op .i64 a b ≤ 9223372036854775807 := by
  unfold bitsOf; split <;> exact wrap_rng _
/-- Has a number the flag? -/
def hasB (n f : Int) : Bool := bitsOf .and .i64 n f != 0
theorem hasB_bit (n f : Int) (k : Nat) (hk : k < 64) (hf : bv f = BitVec.twoPow 64 k) : hasB n f = (bv n).getLsbD k := by
  have h0 : hasB n f = true ↔ bv n &&& bv f ≠ 0#64 := by
    unfold hasB
    rw [bne_iff_ne, ne_eq, ne_eq]
    refine not_congr ⟨fun h => by rw [← bv_and, h]; rfl, fun h => ?_⟩
    rw [← bv_and] at h
    exact bv_inj (bits_rng _ _ _) (by omega) (by rw [h]; rfl)
  rw [Bool.eq_iff_iff, h0, hf]
  constructor
  · intro h
    cases hb : (bv n).getLsbD k with
    | true => rfl
    | false =>
      refine absurd ?_ h
      apply BitVec.eq_of_getLsbD_eq
      intro i hi
      rw [BitVec.getLsbD_and, BitVec.getLsbD_twoPow]
      by_cases e : k = i
      · subst e; simp [hb]
      · simp [e]
  · intro h e
    have := congrArg (fun x : BitVec 64 => x.getLsbD k) e
    rw [BitVec.getLsbD_and, BitVec.getLsbD_twoPow, h] at this
    simp [hk] at this
theorem and_small (n f : Int) (h0 : 0 ≤ f) (h1 : f < 9223372036854775808) : 0 ≤ bitsOf .and .i64 n f ∧ bitsOf .and .i64 n f ≤ f := by
  have h2 : (bv n &&& bv f).toNat ≤ f.toNat := by
    rw [BitVec.toNat_and]
    refine Nat.le_trans Nat.and_le_right ?_
    rw [BitVec.toNat_ofInt]; omega
  show 0 ≤ IntKind.i64.wrap ((bv n &&& bv f).toNat : Int) ∧ _
  have h3 : bitsOf .and .i64 n f = ((bv n &&& bv f).toNat : Int) := by
    show IntKind.i64.wrap ((bv n &&& bv f).toNat : Int) = _
    rw [wrap_i64 (by omega) (by omega)]
  rw [h3]
  rw [wrap_i64 (by omega) (by omega)]
  omega
theorem and_127 : ∀ c : Int, 0 ≤ c → c < 256 → bitsOf .and .u8 c 127 = c % 128 := by
  intro c h0 h1
  have key : ∀ n : Fin 256, bitsOf .and .u8 (n.val : Int) 127 = (n.val : Int) % 128 := by decide +kernel
  have := key ⟨c.toNat, by omega⟩
  simp only at this
  rwa [Int.toNat_of_nonneg h0] at this
end Go.HW
