/- Pens: aids. -/
import Derived.Test.YtkagmlpnidijaaaPenRef
import Derived.Test.YtkagmlpnidijaaaFbetonyref01SameInts
set_option linter.unusedSimpArgs false
set_option linter.unusedVariables false
namespace Go.Proofs.Ytkagmlpnidijaaa
open Go Go.HW

theorem and_255 {x : Int} (h0 : 0 ≤ x) (h1 : x < 9223372036854775808) : bitsOf .and .i64 x 255 = x % 256 := by
  obtain ⟨n, rfl⟩ := Int.eq_ofNat_of_zero_le h0
  refine bv_inj (bits_rng _ _ _) (by omega) ?_
  rw [bv_and]
  apply BitVec.eq_of_toNat_eq
  rw [BitVec.toNat_and]
  have e : ((n : Int) % 256) = ((n % 256 : Nat) : Int) := by omega
  have e1 : (bv (n : Int)).toNat = n := by show (BitVec.ofInt 64 (n : Int)).toNat = n; rw [BitVec.toNat_ofInt]; omega
  have e2 : (bv ((n % 256 : Nat) : Int)).toNat = n % 256 := by show (BitVec.ofInt 64 ((n % 256 : Nat) : Int)).toNat = n % 256; rw [BitVec.toNat_ofInt]; omega
  rw [e, e1, e2]
  exact Nat.and_two_pow_sub_one_eq_mod n 8

section
variable {h : Heap} {R : Value → Heap → Prop}
theorem ev_shrq {c : Int} {j : IntKind} {n : Nat} (hn : n < 64) {K : Value → Prop} : sShr .i64 (.int .i64 c) (.int j n) K = K (.int .i64 (c / 2 ^ n)) := by
  have e : c.fdiv (2 ^ (min (n : Int).toNat IntKind.i64.bits)) = c / 2 ^ n := by
    rw [Int.toNat_natCast, show min n IntKind.i64.bits = n from Nat.min_eq_left (by show n ≤ 64; omega)]
    exact Int.fdiv_eq_ediv_of_nonneg _ (Int.pow_nonneg (by decide))
  exact propext ⟨fun ⟨_, _, _, e1, e2, _, x⟩ => by cases e1; cases e2; rw [e] at x; exact x, fun x => ⟨c, j, n, rfl, rfl, by omega, by rw [e]; exact x⟩⟩
theorem shr16 {c : Int} {j : IntKind} {K : Value → Prop} : sShr .i64 (.int .i64 c) (.int j 16) K = K (.int .i64 (c / 65536)) := ev_shrq (n := 16) (by decide)
theorem shr8 {c : Int} {j : IntKind} {K : Value → Prop} : sShr .i64 (.int .i64 c) (.int j 8) K = K (.int .i64 (c / 256)) := ev_shrq (n := 8) (by decide)
theorem nil_seq : Ints .i64 h (.slice none 0 0) [] := (sep_nil (enc := encI .i64) (sz := 1) (HW.Sep.start h)).seq
theorem sameI_spec {k : IntKind} {v w : Value} {l m : List Int} (hcap : l.length < 4611686018427387904) (hv : Ints k h v l) (hw : Ints k h w m) (H : R (.bool (decide (l = m))) h) : betonyref01_SameInts_c v w h R := by
  apply betonyref01_SameInts_runs
  unfold betonyref01_SameInts_S
  rw [hv.len, hw.len]
  simp only [ev_ne, ev_if, bne_iff_ne, ne_eq]
  by_cases hl : l.length = m.length
  · rw [if_neg (by simp [hl])]
    refine ⟨fun s h' => ∃ i : Nat, s = .int .i64 i ∧ i ≤ l.length ∧ h' = h ∧ l.take i = m.take i, fun s _ => match s with | .int _ i => (l.length - i).toNat | _ => 0, ⟨0, rfl, by omega, rfl, rfl⟩, ?_⟩
    rintro _ h' ⟨i, rfl, hi, e, ht⟩
    unfold betonyref01_SameInts_l1
    rw [hv.len]
    simp only [ev_lt, ev_if, decide_eq_true_eq]
    rw [e]
    by_cases hlt : i < l.length
    · rw [if_pos (by omega)]
      have g1 : l[i]? = some l[i] := by simp
      have g2 : m[i]? = some (m[i]'(by omega)) := by simp
      generalize l[i] = r at g1
      generalize m[i]'(by omega) = q at g2
      rw [Seq.ld hv g1 rfl, Seq.ld hw g2 rfl]
      simp only [ev_ne, ev_if, bne_iff_ne, ne_eq]
      by_cases hrq : r = q
      · subst hrq
        have wi : IntKind.i64.wrap ((i : Int) + 1) = ((i + 1 : Nat) : Int) := by rw [wrap_i64 (by omega) (by omega)]; rfl
        rw [if_neg (by simp), ev_add, wi]
        exact ⟨⟨i + 1, rfl, by omega, by trivial, by rw [List.take_add_one, List.take_add_one, g1, g2, ht]⟩, by simp only []; omega⟩
      · have : l ≠ m := fun e => by subst e; rw [g1] at g2; cases g2; exact hrq rfl
        rw [if_pos hrq]
        simpa [this] using H
    · rw [if_neg (by omega)]
      have : l = m := by
        rw [List.take_of_length_le (by omega), List.take_of_length_le (by omega)] at ht
        exact ht
      simpa [this] using H
  · rw [if_pos (by omega)]
    have : l ≠ m := fun e => hl (by rw [e])
    simpa [this] using H
end
end Go.Proofs.Ytkagmlpnidijaaa
