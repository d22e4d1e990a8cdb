/- Grids, plain: what cells a list has. -/
import Derived.Test.YthhpieidlpjbmaaBli
set_option linter.unusedSimpArgs false
set_option linter.unusedVariables false
namespace Go.Proofs.Ythhpieidlpjbmaa
open Go Go.HW

theorem setAll_get : ∀ (src l : List Ce) (p i : Nat), p + src.length ≤ l.length → (setAll l p src)[i]? = if p ≤ i ∧ i < p + src.length then src[i - p]? else l[i]?
  | [], l, p, i, _ => by
    rw [if_neg (by simp only [List.length_nil]; omega)]; rfl
  | s :: r, l, p, i, hp => by
    simp only [List.length_cons] at hp ⊢
    rw [setAll, setAll_get r (l.set p s) (p + 1) i (by rw [List.length_set]; omega)]
    by_cases h1 : p ≤ i ∧ i < p + (r.length + 1)
    · rw [if_pos h1]
      by_cases h2 : i = p
      · subst h2
        rw [if_neg (by omega), List.getElem?_set_self (by omega), Nat.sub_self]; rfl
      · rw [if_pos (by omega), show i - p = (i - (p + 1)) + 1 by omega]; rfl
    · rw [if_neg h1, if_neg (by omega), List.getElem?_set_ne (by omega)]
theorem idx_ne {w x y X m Y : Int} (hw : 1 ≤ w) (hx : 0 ≤ x ∧ x < w) (hX : 0 ≤ X ∧ X + m ≤ w) : (Y * w + X ≤ y * w + x ∧ y * w + x < Y * w + X + m) ↔ (y = Y ∧ X ≤ x ∧ x < X + m) := by
  rcases Int.lt_trichotomy y Y with h | h | h
  · have h1 : (y + 1) * w ≤ Y * w := Int.mul_le_mul_of_nonneg_right (by omega) (by omega)
    rw [Int.add_mul, Int.one_mul] at h1
    omega
  · subst h; omega
  · have h1 : (Y + 1) * w ≤ y * w := Int.mul_le_mul_of_nonneg_right (by omega) (by omega)
    rw [Int.add_mul, Int.one_mul] at h1
    omega
theorem getD_of {l : List Ce} {i : Nat} : l.getD i ce0 = (l[i]?).getD ce0 := List.getD_eq_getElem?_getD ..
theorem put_getD {l : List Ce} {w g X Y m : Int} {rows : Nat → List Ce} (z : szOk w g l) (hX : 0 ≤ X ∧ X + m ≤ w) (hm : 0 ≤ m) {x y : Int} (hx : 0 ≤ x ∧ x < w) (hy : 0 ≤ y ∧ y < g) (hY : 0 ≤ Y) : ∀ n : Nat, Y + n ≤ g → (∀ k, k < n → ((rows k).length : Int) = m) → (putRows l w X Y rows n).getD (y * w + x).toNat ce0 = if X ≤ x ∧ x < X + m ∧ Y ≤ y ∧ y < Y + n then (rows (y - Y).toNat).getD (x - X).toNat ce0 else l.getD (y * w + x).toNat ce0
  | 0, _, _ => by rw [if_neg (by omega)]; rfl
  | n + 1, hn, hr => by
    have ih := put_getD z hX hm hx hy hY n (by omega) (fun k hk => hr k (by omega))
    have zz := z
    obtain ⟨z1, z2, z3, z4, z5⟩ := zz
    have m1 := sz_mul ⟨z1, z2⟩ z4 (y := Y + n) (by omega)
    have m2 := sz_mul ⟨z1, z2⟩ z4 hy
    rw [Int.mul_comm w g] at z5
    have hl := hr n (by omega)
    have ne := idx_ne (w := w) (x := x) (y := y) (X := X) (m := m) (Y := Y + n) z1 hx hX
    rw [putRows, getD_of, setAll_get _ _ _ _ (by rw [putRows_len]; omega)]
    by_cases hc : y = Y + n ∧ X ≤ x ∧ x < X + m
    · have := ne.2 hc
      rw [if_pos (by omega), if_pos (by omega), getD_of]
      obtain ⟨rfl, hx1, hx2⟩ := hc
      rw [show ((Y + n) * w + x).toNat - ((Y + n) * w + X).toNat = (x - X).toNat by omega, show (Y + n - Y).toNat = n by omega]
    · have : ¬((Y + ↑n) * w + X ≤ y * w + x ∧ y * w + x < (Y + ↑n) * w + X + m) := fun h => hc (ne.1 h)
      rw [if_neg (by omega), ← getD_of, ih]
      by_cases h2 : X ≤ x ∧ x < X + m ∧ Y ≤ y ∧ y < Y + n
      · rw [if_pos h2, if_pos (by omega)]
      · rw [if_neg h2, if_neg (by omega)]
theorem cell_put {l : List Ce} {w g X Y m x y : Int} {rows : Nat → List Ce} {n : Nat} (z : szOk w g l) (hX : 0 ≤ X ∧ X + m ≤ w) (hm : 0 ≤ m) (hY : 0 ≤ Y) (hn : Y + n ≤ g) (hr : ∀ k, k < n → ((rows k).length : Int) = m) : cell (putRows l w X Y rows n) w g x y = if X ≤ x ∧ x < X + m ∧ Y ≤ y ∧ y < Y + n then (rows (y - Y).toNat).getD (x - X).toNat ce0 else cell l w g x y := by
  unfold cell
  by_cases hin : inG w g x y = true
  · rw [if_pos hin, if_pos hin]
    obtain ⟨hx, hy⟩ := inG_iff.1 hin
    exact put_getD z hX hm hx hy hY n hn hr
  · rw [if_neg hin, if_neg hin]
    rw [if_neg (fun h => hin (inG_iff.2 (by omega)))]
theorem put_ok {l : List Ce} {w g X Y : Int} {rows : Nat → List Ce} {n : Nat} (z : szOk w g l) : szOk w g (putRows l w X Y rows n) := by unfold szOk; rw [putRows_len]; exact z
theorem idx_split {w : Int} {i : Nat} (hw : 1 ≤ w) : 0 ≤ (i : Int) % w ∧ (i : Int) % w < w ∧ 0 ≤ (i : Int) / w ∧ (i : Int) / w * w + (i : Int) % w = i := by
  have h1 := Int.emod_nonneg (i : Int) (show w ≠ 0 by omega)
  have h2 := Int.emod_lt_of_pos (i : Int) (show 0 < w by omega)
  have h3 : 0 ≤ (i : Int) / w := Int.ediv_nonneg (by omega) (by omega)
  have h4 := Int.mul_ediv_add_emod (i : Int) w
  rw [Int.mul_comm] at h4
  exact ⟨h1, h2, h3, h4⟩
theorem idx_in {w g : Int} {l : List Ce} {i : Nat} (z : szOk w g l) (hi : i < l.length) : inG w g ((i : Int) % w) ((i : Int) / w) = true ∧ ((i : Int) / w * w + (i : Int) % w).toNat = i := by
  obtain ⟨z1, z2, z3, z4, z5⟩ := z
  obtain ⟨h1, h2, h3, h4⟩ := idx_split (i := i) z1
  have h5 : (i : Int) / w < g := Int.ediv_lt_of_lt_mul (by omega) (by rw [Int.mul_comm g w]; omega)
  exact ⟨inG_iff.2 ⟨⟨h1, h2⟩, h3, h5⟩, by rw [h4]; omega⟩
theorem cells_ext {l m : List Ce} {w g : Int} (z : szOk w g l) (z' : szOk w g m) (h : ∀ x y, inG w g x y = true → cell l w g x y = cell m w g x y) : l = m := by
  have hl : l.length = m.length := by
    have := z.2.2.2.2; have := z'.2.2.2.2; omega
  refine List.ext_getElem hl (fun i h1 h2 => ?_)
  obtain ⟨hin, hi⟩ := idx_in z h1
  have := h _ _ hin
  unfold cell at this
  rw [if_pos hin, if_pos hin, hi, getD_of, getD_of, List.getElem?_eq_getElem h1, List.getElem?_eq_getElem h2] at this
  exact this
/-- Is a cell in a rectangle? -/
def Rc.has (r : Rc) (x y : Int) : Prop := r.x ≤ x ∧ x < r.x + r.w ∧ r.y ≤ y ∧ y < r.y + r.h
instance (r : Rc) (x y : Int) : Decidable (r.has x y) := by unfold Rc.has; infer_instance
theorem allR_right {w g : Int} (hw : 1 ≤ w ∧ w ≤ 512) (hg : 1 ≤ g ∧ g ≤ 512) : (allR w g).right = true := (Rc.right_iff _).2 (by unfold Rc.Ok allR; simp only; omega)
theorem both_has {a : Rc} {w g x y : Int} (hw : 1 ≤ w ∧ w ≤ 512) (hg : 1 ≤ g ∧ g ≤ 512) : (a.both (allR w g)).has x y ↔ a.right = true ∧ a.has x y ∧ inG w g x y = true := by
  rw [inG_iff]
  unfold Rc.both
  rw [allR_right hw hg, Bool.and_true]
  by_cases ha : a.right = true
  · rw [if_pos ha]
    obtain ⟨a1, a2, a3, a4⟩ := (Rc.right_iff _).1 ha
    unfold rof mx mn Rc.has allR
    simp only
    simp only [ha, true_and]
    split <;> split <;> split <;> split <;> split <;> (simp only; omega)
  · rw [if_neg ha]
    unfold Rc.has
    simp only [ha]
    simp
theorem both_area {a : Rc} {w g : Int} (hw : 1 ≤ w ∧ w ≤ 512) (hg : 1 ≤ g ∧ g ≤ 512) : (a.both (allR w g)).area = (a.both (allR w g)).w * (a.both (allR w g)).h ∧ (0 ≤ (a.both (allR w g)).x ∧ (a.both (allR w g)).x + (a.both (allR w g)).w ≤ w) ∧ (0 ≤ (a.both (allR w g)).y ∧ (a.both (allR w g)).y + (a.both (allR w g)).h ≤ g) ∧ 0 ≤ (a.both (allR w g)).w ∧ 0 ≤ (a.both (allR w g)).h := by
  cases he : (a.both (allR w g)).empty with
  | false =>
    obtain ⟨h1, h2, h3, h4, h5⟩ := both_in he
    have : (a.both (allR w g)).right = true := (Rc.right_iff _).2 (by unfold Rc.Ok; omega)
    refine ⟨by unfold Rc.area; rw [this, he]; rfl, by omega, by omega, by omega, by omega⟩
  | true =>
    unfold Rc.area
    rw [he, Bool.or_true, if_pos rfl]
    unfold Rc.empty at he
    simp only [Bool.or_eq_true, decide_eq_true_eq] at he
    generalize hq : a.both (allR w g) = q at he ⊢
    unfold Rc.both at hq
    split at hq
    · unfold rof at hq
      split at hq
      · rw [← hq]; simp; omega
      · rw [← hq] at he; simp only at he; omega
    · rw [← hq]; simp; omega
/-- How many of the first n numbers are in a range. -/
def cn (a m : Int) : Nat → Int
  | 0 => 0
  | n + 1 => cn a m n + (if a ≤ n ∧ n < a + m then 1 else 0)
theorem cn_all {a m : Int} (h0 : 0 ≤ a) (hm : 0 ≤ m) : ∀ n : Nat, cn a m n = (if (n : Int) ≤ a then 0 else if n ≤ a + m then n - a else m)
  | 0 => by rw [if_pos (by omega)]; rfl
  | n + 1 => by
    rw [cn, cn_all h0 hm n]
    split <;> split <;> split <;> (try split) <;> (try split) <;> omega
theorem cn_full {a m : Int} {n : Nat} (h0 : 0 ≤ a) (hm : 0 ≤ m) (hn : a + m ≤ n) : cn a m n = m := by
  rw [cn_all h0 hm]
  split <;> (try split) <;> omega
end Go.Proofs.Ythhpieidlpjbmaa
