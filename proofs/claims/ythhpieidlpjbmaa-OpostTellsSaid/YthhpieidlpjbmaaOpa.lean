/- What is written of bytes: the example; the laws that need no document. -/
import Derived.Test.YthhpieidlpjbmaaOpo
import Derived.Test.YthhpieidlpjbmaaHwB
import Derived.Test.YthhpieidlpjbmaaFbetonyref01Same
import Derived.Test.YthhpieidlpjbmaaFbetonylaw19awake
set_option linter.unusedSimpArgs false
set_option linter.unusedVariables false
namespace Go.Proofs.Ythhpieidlpjbmaa
open Go Go.HW

section
variable {h0 h : Heap} {F : List HP} {R : Value → Heap → Prop}
theorem same_spec {k : IntKind} {v w : Value} {l m : List Int} (hcap : l.length < 4611686018427387904) (hv : Ints k h v l) (hw : Ints k h w m) (H : R (.bool (decide (l = m))) h) : betonyref01_Same_c v w h R := by
  apply betonyref01_Same_runs
  unfold betonyref01_Same_S
  rw [hv.len, hw.len]
  simp only [ev_ne, ev_if, bne_iff_ne, ne_eq]
  by_cases hl : l.length = m.length
  · rw [if_neg (by simp [hl])]
    refine ⟨fun s h' => ∃ i : Nat, s = .int .i64 i ∧ i ≤ l.length ∧ h' = h ∧ l.take i = m.take i, fun s _ => match s with | .int _ i => (l.length - i).toNat | _ => 0, ⟨0, rfl, by omega, rfl, rfl⟩, ?_⟩
    rintro _ h' ⟨i, rfl, hi, e, ht⟩
    unfold betonyref01_Same_l1
    rw [hv.len]
    simp only [ev_lt, ev_if, decide_eq_true_eq]
    rw [e]
    by_cases hlt : i < l.length
    · rw [if_pos (by omega)]
      have g1 : l[i]? = some l[i] := by simp
      have g2 : m[i]? = some (m[i]'(by omega)) := by simp
      generalize l[i] = r at g1
      generalize m[i]'(by omega) = q at g2
      rw [Seq.ld hv g1 rfl, Seq.ld hw g2 rfl]
      simp only [ev_ne, ev_if, bne_iff_ne, ne_eq]
      by_cases hrq : r = q
      · subst hrq
        have wi : IntKind.i64.wrap ((i : Int) + 1) = ((i + 1 : Nat) : Int) := by rw [wrap_i64 (by omega) (by omega)]; rfl
        rw [if_neg (by simp), ev_add, wi]
        exact ⟨⟨i + 1, rfl, by omega, by trivial, by rw [List.take_add_one, List.take_add_one, g1, g2, ht]⟩, by simp only []; omega⟩
      · have : l ≠ m := fun e => by subst e; rw [g1] at g2; cases g2; exact hrq rfl
        rw [if_pos hrq]
        simpa [this] using H
    · rw [if_neg (by omega)]
      have : l = m := by
        rw [List.take_of_length_le (by omega), List.take_of_length_le (by omega)] at ht
        exact ht
      simpa [this] using H
  · rw [if_pos (by omega)]
    have : l ≠ m := fun e => hl (by rw [e])
    simpa [this] using H

theorem awake19 (H : ∀ h', Ext h h' → R (.bool true) h') : betonylaw19_awake_c h R := by
  apply betonylaw19_awake_runs
  unfold betonylaw19_awake_S
  refine (HW.Sep.start h).slit (enc := encI .u8) (sz := 1) (encI_len .u8) [97, 10] rfl ⟨rfl, Nat.le_of_ble_eq_true rfl, rfl, Nat.le_of_ble_eq_true rfl, rfl⟩ (fun v h1 cv s1 => ?_)
  refine bytes_spec (o := 3) (col := 0) (S := [97, 10]) Rd.own0 (by decide) s1 (fun v2 h2 cv2 s2 => ?_)
  have e : bytesL 3 0 [97, 10] = ([97, 13, 10], 0) := by decide +kernel
  rw [e] at s2 ⊢
  rw [tup0, tup1]
  refine s2.slit (enc := encI .u8) (sz := 1) (encI_len .u8) [97, 13, 10] rfl ⟨rfl, Nat.le_of_ble_eq_true rfl, rfl, Nat.le_of_ble_eq_true rfl, rfl, Nat.le_of_ble_eq_true rfl, rfl⟩ (fun v3 h3 cv3 s3 => ?_)
  refine same_spec (k := .u8) (l := [97, 13, 10]) (m := [97, 13, 10]) (by decide) s3.b1.seq s3.seq ?_
  rw [decide_eq_true rfl, ev_and, if_pos rfl, ev_eq]
  exact H h3 s3.ext
end
theorem has_off (o : Int) : hasB (bitsOf .andNot .i64 o 1) 1 = false := by
  rw [hasB_bit _ _ 0 (by decide) (by decide), bv_andNot, BitVec.getLsbD_and, BitVec.getLsbD_not]
  have : (bv 1).getLsbD 0 = true := by decide
  rw [this]; simp
theorem has_on (o : Int) : hasB (bitsOf .or .i64 o 1) 1 = true := by
  rw [hasB_bit _ _ 0 (by decide) (by decide), bv_or, BitVec.getLsbD_or]
  have : (bv 1).getLsbD 0 = true := by decide
  rw [this]; simp
theorem goL_off {o : Int} (h : hasB o 1 = false) : ∀ (S : List Int) (col : Int), (goL o col S).1 = S
  | [], _ => rfl
  | c :: S, col => by
    rw [goL, goL_off h S]
    unfold byteL
    rw [if_neg (by rw [h]; decide)]; rfl
theorem byte_plain {o col c : Int} (h : hasB o 1 = true) (hc : 32 ≤ c ∧ c ≤ 126) (hcol : 0 ≤ col ∧ col ≤ 1073741824) : byteL o col c = ([c], col + 1) := by
  unfold byteL postL
  have e13 : (c == 13) = false := by simp; omega
  have e10 : (c == 10) = false := by simp; omega
  have e9 : (c == 9) = false := by simp; omega
  have e8 : (c == 8) = false := by simp; omega
  have e127 : (c == 127) = false := by simp; omega
  have d1 : decide (c < 32) = false := by simp; omega
  have d2 : decide (128 ≤ c) = false := by simp; omega
  rw [if_pos h, clamp_id hcol, e13, e10, e9, e8, e127, d1, d2]
  rfl
theorem goL_plain {o : Int} (h : hasB o 1 = true) : ∀ (S : List Int) (col : Int), (∀ c ∈ S, 32 ≤ c ∧ c ≤ 126) → 0 ≤ col → col + S.length ≤ 1073741824 → goL o col S = (S, col + S.length)
  | [], col, _, _, _ => by rw [goL]; simp
  | c :: S, col, hS, h0, hb => by
    rw [List.length_cons] at hb
    rw [goL, byte_plain h (hS c (List.mem_cons_self ..)) (by omega), goL_plain h S (col + 1) (fun d hd => hS d (List.mem_cons_of_mem _ hd)) (by omega) (by omega)]
    simp only [List.length_cons, List.cons_append, List.nil_append, Prod.mk.injEq, true_and]
    omega
theorem goL_clamp {o n : Int} (B : List Int) : (goL o (clamp n) B).1 = (goL o n B).1 := by
  cases B with
  | nil => rfl
  | cons c S => rw [goL, goL, byte_clamp]
end Go.Proofs.Ythhpieidlpjbmaa
