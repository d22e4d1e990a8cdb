/- Scancodes: each letter, digit and sign is typed by just one key. -/
import Derived.Test.YtbgipcikkedloaaScLaw2
import Derived.Test.YtbgipcikkedloaaFbetonylaw08ScanTypes
set_option linter.unusedSimpArgs false
namespace Go.Proofs.Ytbgipcikkedloaa
open Go Go.HW

/-- Does a key type the sign? -/
def hit (x : Int) (code mods : Nat) : Bool := (((bytesM code mods false).length : Int) == 1) && ((bytesM code mods false).getD 0 0 == x) && ((code : Int) != 37)
def cnt2 (x : Int) (code : Nat) : Nat → Nat
  | 0 => 0
  | j + 1 => cnt2 x code j + (if hit x code j = true then 1 else 0)
def cnt1 (x : Int) : Nat → Nat
  | 0 => 0
  | i + 1 => cnt1 x i + cnt2 x (i + 1) 2
theorem cnt2_le (x : Int) (c : Nat) : ∀ j, cnt2 x c j ≤ j
  | 0 => Nat.le_refl _
  | j + 1 => by have := cnt2_le x c j; unfold cnt2; split <;> omega
theorem cnt1_le (x : Int) : ∀ i, cnt1 x i ≤ 2 * i
  | 0 => Nat.le_refl _
  | i + 1 => by have := cnt1_le x i; have := cnt2_le x (i + 1) 2; unfold cnt1; omega
set_option maxRecDepth 100000 in
theorem cnt_ok : ∀ x : Fin 256, (if 32 < x.val ∧ x.val < 127 then decide (cnt1 x.val 52 = 1) else decide (cnt1 x.val 52 ≤ 2)) = true := by decide +kernel

section
variable {h : Heap} {R : Value → Heap → Prop}
theorem types_law {x : Int} (hx : 0 ≤ x ∧ x < 256) (H : ∀ h', Ext h h' → R (.bool true) h') : betonylaw08_ScanTypes_c (.int .u8 x) h R := by
  apply betonylaw08_ScanTypes_runs
  unfold betonylaw08_ScanTypes_S
  refine ⟨fun s h' => ∃ i : Nat, s = (.int .i64 (cnt1 x i), .int .i64 ((i + 1 : Nat) : Int)) ∧ i ≤ 52 ∧ Ext h h', fun s _ => match s.2 with | .int _ i => (53 - i).toNat | _ => 0, ⟨0, rfl, by omega, Ext.refl _⟩, ?_⟩
  rintro _ h1 ⟨i, rfl, hi, e1⟩
  simp only []
  unfold betonylaw08_ScanTypes_l1
  simp only [ev_le, ev_if, decide_eq_true_eq]
  have b1 := cnt1_le x i
  by_cases hi52 : i < 52
  · rw [if_pos (by omega)]
    refine ⟨fun s h' => ∃ j : Nat, s = (.int .i64 ((cnt1 x i + cnt2 x (i + 1) j : Nat) : Int), .int .i64 j) ∧ j ≤ 2 ∧ Ext h h', fun s _ => match s.2 with | .int _ j => (2 - j).toNat | _ => 0, ⟨0, by simp [cnt2], by omega, e1⟩, ?_⟩
    rintro _ h2 ⟨j, rfl, hj, e2⟩
    simp only []
    unfold betonylaw08_ScanTypes_l2
    simp only [ev_lt, ev_if, decide_eq_true_eq]
    have b2 := cnt2_le x (i + 1) j
    by_cases hj2 : j < 2
    · rw [if_pos (by omega)]
      refine build_intro (cs := keyA ((i + 1 : Nat) : Int) j) ⟨rfl, Nat.le_of_ble_eq_true rfl, rfl, Nat.le_of_ble_eq_true rfl, rfl⟩ ?_
      refine bytes_spec (fun v h3 e3 hv => ?_)
      rw [hv.len]
      have nx : ∀ y : Int, y = ((cnt1 x i + cnt2 x (i + 1) (j + 1) : Nat) : Int) → betonylaw08_ScanTypes_j3 (fun x3_1' x5' h' => (∃ j : Nat, (x3_1', x5') = (.int .i64 ((cnt1 x i + cnt2 x (i + 1) j : Nat) : Int), .int .i64 j) ∧ j ≤ 2 ∧ Ext h h') ∧ (match x5' with | .int _ j => (2 - j).toNat | _ => 0) < (2 - (j : Int)).toNat) (.int .i64 j) (.int .i64 y) h3 := by
        rintro y rfl
        unfold betonylaw08_ScanTypes_j3
        rw [ev_add, wrap_i64 (by omega) (by omega)]
        exact ⟨⟨j + 1, rfl, by omega, e2.trans e3⟩, by simp only []; omega⟩
      have hand : ∀ K : Value → Prop, K (.bool ((((bytesM ((i + 1 : Nat) : Int) j false).length : Int) == 1) && ((bytesM ((i + 1 : Nat) : Int) j false).getD 0 0 == x))) → sAnd (.bool (((bytesM ((i + 1 : Nat) : Int) j false).length : Int) == 1)) (fun k_1 => sIxS v (.int .i64 0) 1 fun x24 => sLd h3 x24 fun x25 => sEq x25 (.int .u8 x) fun x27 => k_1 x27) K := by
        intro K hK
        rw [ev_and]
        split
        · rename_i h1
          rw [h1, Bool.true_and] at hK
          have hl : 0 < (bytesM ((i + 1 : Nat) : Int) j false).length := by have := beq_iff_eq.1 h1; omega
          rw [show (Value.int .i64 0) = .int .i64 ((0 : Nat) : Int) from rfl, hv.ld (j := 0) (x := (bytesM ((i + 1 : Nat) : Int) j false).getD 0 0) (by rw [List.getD_eq_getElem?_getD, List.getElem?_eq_getElem hl]; rfl) rfl, ev_eq]
          exact hK
        · rename_i h1
          rw [show (((bytesM ((i + 1 : Nat) : Int) j false).length : Int) == 1) = false by simpa using h1, Bool.false_and] at hK
          exact hK
      simp only [ev_eq]
      refine hand _ ?_
      simp only [ev_ne, ev_and_p, ev_if]
      have hh : ((((bytesM ((i + 1 : Nat) : Int) j false).length : Int) == 1) && ((bytesM ((i + 1 : Nat) : Int) j false).getD 0 0 == x) && (((i + 1 : Nat) : Int) != 37)) = hit x (i + 1) j := rfl
      rw [hh]
      split
      · rename_i h1
        rw [ev_add, wrap_i64 (by omega) (by omega)]
        exact nx _ (by show _ = ((cnt1 x i + (cnt2 x (i + 1) j + (if hit x (i + 1) j = true then 1 else 0)) : Nat) : Int); rw [if_pos h1]; omega)
      · rename_i h1
        exact nx _ (by show _ = ((cnt1 x i + (cnt2 x (i + 1) j + (if hit x (i + 1) j = true then 1 else 0)) : Nat) : Int); rw [if_neg h1]; rfl)
    · rw [if_neg (by omega), ev_add, wrap_i64 (by omega) (by omega)]
      have : j = 2 := by omega
      subst this
      exact ⟨⟨i + 1, rfl, by omega, e2⟩, by simp only []; omega⟩
  · rw [if_neg (by omega)]
    have : i = 52 := by omega
    subst this
    have ok := cnt_ok ⟨x.toNat, by omega⟩
    simp only at ok
    rw [Int.toNat_of_nonneg hx.1] at ok
    simp only [ev_gt, ev_lt, ev_le, ev_eq, ev_and_p, ev_if, Bool.and_eq_true, decide_eq_true_eq]
    by_cases hr : 32 < x ∧ x < 127
    · rw [if_pos (by omega)] at ok
      rw [if_pos hr, of_decide_eq_true ok]
      exact and_ext0 (fun K' HK => awake08 HK) (fun h2 e2 => H _ (e1.trans e2))
    · rw [if_neg (by omega)] at ok
      have := of_decide_eq_true ok
      rw [if_neg hr, decide_eq_true (show ((cnt1 x 52 : Nat) : Int) ≤ 2 by omega)]
      exact and_ext0 (fun K' HK => awake08 HK) (fun h2 e2 => H _ (e1.trans e2))
end
end Go.Proofs.Ytbgipcikkedloaa
