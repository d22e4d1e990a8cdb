/- UartSends: what is sent goes out as it was taken. -/
import Derived.Test.YtecoejjpdogklaaUarAw
import Derived.Test.YtecoejjpdogklaaFbetonyref01Same
import Derived.Test.YtecoejjpdogklaaFbetonylaw09UartSends
set_option linter.unusedSimpArgs false
namespace Go.Proofs.Ytecoejjpdogklaa
open Go Go.HW

section
variable {h : Heap} {R : Value → Heap → Prop}
theorem same_spec {k : IntKind} {v w : Value} {l m : List Int} (hcap : l.length < 4611686018427387904) (hv : Ints k h v l) (hw : Ints k h w m) (H : R (.bool (decide (l = m))) h) : betonyref01_Same_c v w h R := by
  apply betonyref01_Same_runs
  unfold betonyref01_Same_S
  rw [hv.len, hw.len]
  simp only [ev_ne, ev_if, bne_iff_ne, ne_eq]
  by_cases hl : l.length = m.length
  · rw [if_neg (by simp [hl])]
    refine ⟨fun s h' => ∃ i : Nat, s = .int .i64 i ∧ i ≤ l.length ∧ h' = h ∧ l.take i = m.take i, fun s _ => match s with | .int _ i => (l.length - i).toNat | _ => 0, ⟨0, rfl, by omega, rfl, rfl⟩, ?_⟩
    rintro _ h' ⟨i, rfl, hi, e, ht⟩
    unfold betonyref01_Same_l1
    rw [hv.len]
    simp only [ev_lt, ev_if, decide_eq_true_eq]
    rw [e]
    by_cases hlt : i < l.length
    · rw [if_pos (by omega)]
      have g1 : l[i]? = some l[i] := by simp
      have g2 : m[i]? = some (m[i]'(by omega)) := by simp
      generalize l[i] = r at g1
      generalize m[i]'(by omega) = q at g2
      rw [Seq.ld hv g1 rfl, Seq.ld hw g2 rfl]
      simp only [ev_ne, ev_if, bne_iff_ne, ne_eq]
      by_cases hrq : r = q
      · subst hrq
        have wi : IntKind.i64.wrap ((i : Int) + 1) = ((i + 1 : Nat) : Int) := by rw [wrap_i64 (by omega) (by omega)]; rfl
        rw [if_neg (by simp), ev_add, wi]
        exact ⟨⟨i + 1, rfl, by omega, by trivial, by rw [List.take_add_one, List.take_add_one, g1, g2, ht]⟩, by simp only []; omega⟩
      · have : l ≠ m := fun e => by subst e; rw [g1] at g2; cases g2; exact hrq rfl
        rw [if_pos hrq]
        simpa [this] using H
    · rw [if_neg (by omega)]
      have : l = m := by
        rw [List.take_of_length_le (by omega), List.take_of_length_le (by omega)] at ht
        exact ht
      simpa [this] using H
  · rw [if_pos (by omega)]
    have : l ≠ m := fun e => hl (by rw [e])
    simpa [this] using H

set_option maxRecDepth 10000 in
theorem sends_law {x0 x1 : Value} {A B : List Int} {n : Int} (hn : 0 ≤ n ∧ n < 256) (hA : Ints .u8 h x0 A) (hB : Ints .u8 h x1 B) (H : ∀ h', Ext h h' → R (.bool true) h') : betonylaw09_UartSends_c x0 x1 (.int .u8 n) h R := by
  apply betonylaw09_UartSends_runs
  unfold betonylaw09_UartSends_S
  rw [hA.len]
  simp only [hB.len, ev_gt, ev_or_p, ev_if, Bool.or_eq_true, decide_eq_true_eq]
  by_cases hlen : 60 < (A.length : Int) ∨ 60 < (B.length : Int)
  · rw [if_pos hlen]; exact awake09 H
  rw [if_neg hlen]
  refine unew_spec (fun x => (x (by omega)).elim) (fun _ b h1 hb a1 => ?_)
  simp only [ptr, ev_eqlNil, Option.isNone_some, ev_orh, Bool.false_eq_true, if_false]
  refine send_spec a1 (hA.ext a1.ext) (by omega) (fun ko2 h2 a2 _ _ => ?_)
  have m1 : min A.length ((200 : Int).toNat - ([] : List Int).length) = A.length := by simp only [List.length_nil]; omega
  dsimp only at a2 ⊢
  rw [m1] at a2 ⊢
  rw [List.nil_append, List.take_length] at a2
  simp only [hA.len, ev_ne, bne_self_eq_false, ev_orh, Bool.false_eq_true, if_false]
  refine send_spec a2 (hB.ext a2.ext) (by omega) (fun ko3 h3 a3 _ _ => ?_)
  have m2 : min B.length ((200 : Int).toNat - A.length) = B.length := by omega
  dsimp only at a3 ⊢
  rw [m2] at a3 ⊢
  rw [List.take_length] at a3
  simp only [ev_ne, bne_self_eq_false, ev_if, Bool.false_eq_true, if_false]
  refine ⟨fun s h' => ∃ (v : Value) (i : Nat) (k : Option Nat) (o rest : List Int), s = (v, .int .i64 i) ∧ i ≤ 130 ∧ LnAt h h' b none ko3 ⟨(200 : Int).toNat, [], rest, 0⟩ ∧ OwnI .u8 h' k v o ∧ (∀ d, k = some d → h.size ≤ d ∧ d ≠ b ∧ ko3 ≠ some d) ∧ o ++ rest = A ++ B ∧ rest.length ≤ 120 - i,
    fun s _ => match s.2 with | .int _ i => (130 - i).toNat | _ => 0, ⟨_, 0, none, [], A ++ B, rfl, by omega, a3, .nil, by simp, rfl, by rw [List.length_append]; omega⟩, ?_⟩
  rintro _ h4 ⟨v, i, k, o, rest, rfl, hi, a4, o4, hk, hsum, hrest⟩
  simp only []
  unfold betonylaw09_UartSends_l1
  simp only [ev_lt, ev_if, decide_eq_true_eq]
  have wi : IntKind.i64.wrap ((i : Int) + 1) = ((i + 1 : Nat) : Int) := by rw [wrap_i64 (by omega) (by omega)]; rfl
  by_cases hlt : (i : Int) < 130
  · rw [if_pos hlt, ev_conv, wrap_i64 (by omega) (by omega), ev_rem (by decide), ev_add, Int.tmod_eq_emod_of_nonneg hn.1, wrap_i64 (by omega) (by omega)]
    have hlr := congrArg List.length hsum
    simp only [List.length_append] at hlr
    refine sent_spec a4 (fun m k5 v5 h5 hm hml a5 o5 hk5 c5 => ?_)
    have hm2 : rest.length - m ≤ 120 - (i + 1) := by
      dsimp only at hm hml
      split at hm <;> split at hm <;> omega
    have o4' := o4.chg c5 (fun d hd y => (hk d hd).2.1 y)
    refine app_intro (enc := encI .u8) (sz := 1) rfl (by decide) (encI_len _) (encI_cell _) o4' o5.seq (by dsimp only at hml ⊢; rw [List.length_take]; omega) (by decide) (fun k6 v6 h6 o6 hk6 c6 => ?_)
    rw [ev_add, wi]
    have hk6' : ∀ d, k6 = some d → h.size ≤ d ∧ d ≠ b ∧ ko3 ≠ some d := fun d hd => by
      rcases hk6 with e | e
      · exact hk d (e ▸ hd)
      · rw [e] at hd; cases hd
        obtain ⟨_, _, g1, _, g3⟩ := a5.ex
        have l1 := g1.lt
        have l2 := a5.ext.size
        exact ⟨l2, by omega, fun y => by have := g3.lt y; omega⟩
    have a6 := a5.chg c6 (fun d hd => (hk d hd.symm).1) (fun y => (hk b y.symm).2.1 rfl) (by simp) (fun d hd y => (hk d y.symm).2.2 hd)
    refine ⟨⟨v6, i + 1, k6, _, _, rfl, by omega, a6, o6, hk6', ?_, by rw [List.length_drop]; exact hm2⟩, by simp only []; omega⟩
    dsimp only
    rw [List.append_assoc, List.take_append_drop]; exact hsum
  · rw [if_neg hlt]
    have hr0 : rest = [] := List.eq_nil_of_length_eq_zero (by omega)
    subst hr0
    rw [List.append_nil] at hsum
    subst hsum
    refine waits_spec a4 ?_
    simp only [ev_tup, List.getElem?_toArray, List.getElem?_cons_succ, List.getElem?_cons_zero, List.length_nil]
    refine slit_intro (enc := encI .u8) (sz := 1) (encI_len _) [] rfl rfl (fun k5 v5 h5 hk5 e5 o5 => ?_)
    have x5 := a4.ext.trans e5
    refine app_intro (enc := encI .u8) (sz := 1) rfl (by decide) (encI_len _) (encI_cell _) o5 (Seq.ext hA x5) (by simp only [List.length_nil]; omega) (by decide) (fun k6 v6 h6 o6 hk6 c6 => ?_)
    have x6 : Ext h4 h6 := e5.chg_trans c6 fun d hd => by cases hd; exact hk5
    refine app_intro (enc := encI .u8) (sz := 1) rfl (by decide) (encI_len _) (encI_cell _) o6 (Seq.ext hB (a4.ext.trans x6)) (by simp only [List.length_append, List.length_nil]; omega) (by decide) (fun k7 v7 h7 o7 hk7 c7 => ?_)
    have x7 : Ext h4 h7 := x6.chg_trans c7 fun d hd => by
      rcases hk6 with e | e
      · rw [e] at hd; cases hd; exact hk5
      · rw [e] at hd; cases hd; exact e5.size
    rw [List.nil_append] at o7
    refine same_spec (by rw [List.length_append]; omega) (o4.ext x7).seq o7.seq ?_
    simp only [decide_true, ev_eq, ev_and_p, Bool.true_and]
    rw [show ((((0 : Nat) : Int) == 0)) = true from rfl]
    simp only [ev_andh, if_true]
    exact awake09 fun h8 e8 => H _ ((a4.ext.trans x7).trans e8)
end
end Go.Proofs.Ytecoejjpdogklaa
