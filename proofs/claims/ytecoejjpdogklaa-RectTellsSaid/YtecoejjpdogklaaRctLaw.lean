/- RectFar and RectCells, on the four numbers. -/
import Derived.Test.YtecoejjpdogklaaRctLess
import Derived.Test.YtecoejjpdogklaaFbetonylaw04RectFar
import Derived.Test.YtecoejjpdogklaaFbetonylaw04RectCells
set_option linter.unusedSimpArgs false
namespace Go.Proofs.Ytecoejjpdogklaa
open Go Go.HW

section
variable {h : Heap} {R : Value → Heap → Prop}
theorem eqVs_rc (r q : Rc) : eqVs r.c.toList q.c.toList = decide (r = q) := by
  obtain ⟨x, y, w, v⟩ := r
  obtain ⟨x', y', w', v'⟩ := q
  have e : ∀ a b : Int, eqV (.int .i64 a) (.int .i64 b) = decide (a = b) := fun a b => by
    simp only [eqV]
    by_cases h : a = b <;> simp [h]
  simp [Rc.c, eqVs, Rc.mk.injEq, e]
theorem okC_rc (r : Rc) : okC [some .i64, some .i64, some .i64, some .i64] r.c.toList := by
  simp [Rc.c, okC]
theorem sameall_spec {v w : Value} {l m : List Rc} (hcap : l.length < 4611686018427387904) (hv : Rcs h v l) (hw : Rcs h w m) (H : R (.bool (decide (l = m))) h) : betonyref04_SameAll_c v w h R := by
  apply betonyref04_SameAll_runs
  unfold betonyref04_SameAll_S
  rw [hv.len, hw.len]
  simp only [ev_ne, ev_if, bne_iff_ne, ne_eq]
  by_cases hl : l.length = m.length
  · rw [if_neg (by simp [hl])]
    refine ⟨fun s h' => ∃ i : Nat, s = .int .i64 i ∧ i ≤ l.length ∧ h' = h ∧ l.take i = m.take i, fun s _ => match s with | .int _ i => (l.length - i).toNat | _ => 0, ⟨0, rfl, by omega, rfl, rfl⟩, ?_⟩
    rintro _ h' ⟨i, rfl, hi, e, ht⟩
    unfold betonyref04_SameAll_l1
    rw [hv.len]
    simp only [ev_lt, ev_if, decide_eq_true_eq]
    rw [e]
    by_cases hlt : i < l.length
    · rw [if_pos (by omega)]
      have g1 : l[i]? = some l[i] := by simp
      have g2 : m[i]? = some (m[i]'(by omega)) := by simp
      generalize l[i] = r at g1
      generalize m[i]'(by omega) = q at g2
      rw [hv.ldn g1 r.enc_len, hw.ldn g2 q.enc_len]
      show sNeqAgg (.agg r.c) (.agg q.c) _ _
      rw [ev_neqAgg (okC_rc r) (okC_rc q), eqVs_rc, ev_if]
      by_cases hrq : r = q
      · subst hrq
        have wi : IntKind.i64.wrap ((i : Int) + 1) = ((i + 1 : Nat) : Int) := by rw [wrap_i64 (by omega) (by omega)]; rfl
        simp only [decide_true, Bool.not_true, Bool.false_eq_true, if_false, ev_add, wi]
        exact ⟨⟨i + 1, rfl, by omega, trivial, by rw [List.take_add_one, List.take_add_one, g1, g2, ht]⟩, by omega⟩
      · have : l ≠ m := fun e => by subst e; rw [g1] at g2; cases g2; exact hrq rfl
        simp only [hrq, decide_false, Bool.not_false, if_true]
        simpa [this] using H
    · rw [if_neg (by omega)]
      have : l = m := by
        rw [List.take_of_length_le (by omega), List.take_of_length_le (by omega)] at ht
        exact ht
      simpa [this] using H
  · rw [if_pos (by omega)]
    have : l ≠ m := fun e => hl (by rw [e])
    simpa [this] using H

theorem awake04 (H : ∀ h', Ext h h' → R (.bool true) h') : betonylaw04_awake_c h R := by
  apply betonylaw04_awake_runs
  unfold betonylaw04_awake_S
  refine build_intro (cs := Rc.c ⟨0, 0, 4, 3⟩) ⟨rfl, Nat.le_of_ble_eq_true rfl, rfl, Nat.le_of_ble_eq_true rfl, rfl⟩ ?_
  refine build_intro (cs := Rc.c ⟨1, 1, 1, 1⟩) ⟨rfl, Nat.le_of_ble_eq_true rfl, rfl, Nat.le_of_ble_eq_true rfl, rfl, Nat.le_of_ble_eq_true rfl, rfl, Nat.le_of_ble_eq_true rfl, rfl⟩ ?_
  show rect_Less_c (Rc.v ⟨0, 0, 4, 3⟩) (Rc.v ⟨1, 1, 1, 1⟩) _ _
  refine less_spec (fun v h1 e1 q1 => ?_)
  have e : Rc.less ⟨0, 0, 4, 3⟩ ⟨1, 1, 1, 1⟩ = [⟨0, 0, 4, 1⟩, ⟨0, 1, 1, 1⟩, ⟨2, 1, 2, 1⟩, ⟨0, 2, 4, 1⟩] := by decide +kernel
  rw [e] at q1
  refine build_intro (cs := Rc.c ⟨0, 0, 4, 1⟩) ⟨rfl, Nat.le_of_ble_eq_true rfl, rfl, Nat.le_of_ble_eq_true rfl, rfl, Nat.le_of_ble_eq_true rfl, rfl, Nat.le_of_ble_eq_true rfl, rfl⟩ ?_
  refine build_intro (cs := Rc.c ⟨0, 1, 1, 1⟩) ⟨rfl, Nat.le_of_ble_eq_true rfl, rfl, Nat.le_of_ble_eq_true rfl, rfl, Nat.le_of_ble_eq_true rfl, rfl, Nat.le_of_ble_eq_true rfl, rfl⟩ ?_
  refine build_intro (cs := Rc.c ⟨2, 1, 2, 1⟩) ⟨rfl, Nat.le_of_ble_eq_true rfl, rfl, Nat.le_of_ble_eq_true rfl, rfl, Nat.le_of_ble_eq_true rfl, rfl, Nat.le_of_ble_eq_true rfl, rfl⟩ ?_
  refine build_intro (cs := Rc.c ⟨0, 2, 4, 1⟩) ⟨rfl, Nat.le_of_ble_eq_true rfl, rfl, Nat.le_of_ble_eq_true rfl, rfl, Nat.le_of_ble_eq_true rfl, rfl, Nat.le_of_ble_eq_true rfl, rfl⟩ ?_
  refine slit4 (r1 := ⟨0, 0, 4, 1⟩) (r2 := ⟨0, 1, 1, 1⟩) (r3 := ⟨2, 1, 2, 1⟩) (r4 := ⟨0, 2, 4, 1⟩) (fun k w h2 hk e2 o2 => ?_)
  refine sameall_spec (by decide) (q1.ext e2) o2.seq ?_
  exact H _ (e1.trans e2)

theorem refin_spec {r : Rc} {x y : Int} (hr : r.Ok) (hx : -2305843009213693952 ≤ x ∧ x ≤ 2305843009213693952) (hy : -2305843009213693952 ≤ y ∧ y ≤ 2305843009213693952) (H : ∀ h', Ext h h' → R (.bool (r.has x y)) h') : betonyref04_In_c r.v (.int .i64 x) (.int .i64 y) h R := by
  obtain ⟨x1, x2, x3, x4⟩ := hr
  apply betonyref04_In_runs
  unfold betonyref04_In_S
  refine box_intro r.cells (fun b h1 hb e1 b1 => ?_)
  rw [ev_off, ev_ld_has b1 rfl, ev_off, ev_ld_has b1 rfl]
  refine row_spec (wrap_i64 (by omega) (by omega)) ?_
  refine and_ext (fun _ K' HK => by
    rw [ev_off, ev_ld_has b1 rfl, ev_off, ev_ld_has b1 rfl]
    exact row_spec (wrap_i64 (by omega) (by omega)) (HK _ (Ext.refl _))) (fun h2 e2 => ?_)
  exact H _ (e1.trans e2)

theorem far_law {r : Rc} {x y : Int} (hr : r.I) (hx : i64 x) (hy : i64 y) (H : ∀ h', Ext h h' → R (.bool true) h') : betonylaw04_RectFar_c r.v (.int .i64 x) (.int .i64 y) h R := by
  apply betonylaw04_RectFar_runs
  unfold betonylaw04_RectFar_S
  refine box_intro r.cells (fun b h1 hb e1 b1 => ?_)
  rw [Rc.ldn b1]
  refine in_spec hr hx hy (fun h2 e2 => ?_)
  have e2' := e1.trans e2
  have b2 := e2.has b1
  simp only [ev_off, ev_ld, b2.at, Rc.c, Nat.zero_add, List.getElem?_toArray, List.getElem?_cons_succ, List.getElem?_cons_zero, ev_lt, ev_or_p, ev_and_p, ev_if]
  have f1 : (r.has x y && (((decide (r.w < 1) || decide (r.h < 1)) || decide (x < r.x)) || decide (y < r.y))) = false := by
    rw [Bool.eq_false_iff]; intro q
    simp only [Rc.has, inB, Bool.and_eq_true, Bool.or_eq_true, decide_eq_true_eq] at q
    omega
  rw [f1, if_neg (by decide), Rc.ldn b2]
  refine refright_spec (fun h3 e3 => ?_)
  have e3' := e2'.trans e3
  have b3 := e3.has b2
  simp only [ev_gt, ev_lt, ev_or_p, ev_and_p]
  refine and_ext (y := r.has x y) (fun _ K' HK => by
    rw [Rc.ldn b3]
    exact in_spec hr hx hy fun h4 e4 => HK _ e4) (fun h4 e4 => ?_)
  have e4' := e3'.trans e4
  have b4 := e4.has b3
  rw [ev_if]
  have f2 : ((r.right && (((decide (4294967296 < x) || decide (4294967296 < y)) || decide (x < -4294967296)) || decide (y < -4294967296))) && r.has x y) = false := by
    rw [Bool.eq_false_iff]; intro q
    rw [Bool.and_eq_true, Bool.and_eq_true, r.right_iff] at q
    obtain ⟨⟨⟨x1, x2, x3, x4⟩, q2⟩, q3⟩ := q
    simp only [Rc.has, inB, Bool.and_eq_true, Bool.or_eq_true, decide_eq_true_eq] at q2 q3
    omega
  rw [f2, if_neg (by decide)]
  simp only [ev_off, ev_ld, b4.at, Rc.c, Nat.zero_add, List.getElem?_toArray, List.getElem?_cons_succ, List.getElem?_cons_zero, ev_lt, ev_or_p]
  refine or_ext (y := r.has r.x r.y) (fun _ K' HK => by
    rw [Rc.ldn b4]
    exact in_spec hr hr.1 hr.2.1 fun h5 e5 => HK _ e5) (fun h5 e5 => ?_)
  have f3 : ((decide (r.w < 1) || decide (r.h < 1)) || r.has r.x r.y) = true := by
    simp only [Rc.has, inB, Bool.and_eq_true, Bool.or_eq_true, decide_eq_true_eq]
    omega
  rw [f3]
  refine and_ext (y := true) (fun _ K' HK => awake04 fun h6 e6 => HK _ e6) (fun h6 e6 => ?_)
  exact H _ ((e4'.trans e5).trans e6)
end
end Go.Proofs.Ytecoejjpdogklaa
