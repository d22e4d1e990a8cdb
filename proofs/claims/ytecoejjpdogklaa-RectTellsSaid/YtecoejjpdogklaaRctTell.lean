/- Rectangles: what the chapter tells is the document's. -/
import Derived.Test.YtecoejjpdogklaaRctCells
import Derived.Test.YtecoejjpdogklaaHwCat
import Derived.Test.YtecoejjpdogklaaFbetonyref04Meets
import Derived.Test.YtecoejjpdogklaaFbetonyref04Both
import Derived.Test.YtecoejjpdogklaaFbetonyref04Has
import Derived.Test.YtecoejjpdogklaaFbetonyref04Area
import Derived.Test.YtecoejjpdogklaaFbetonyref04put
import Derived.Test.YtecoejjpdogklaaFbetonyref04Less
import Derived.Test.YtecoejjpdogklaaFbetonylaw04RectTells
set_option linter.unusedSimpArgs false
namespace Go.Proofs.Ytecoejjpdogklaa
open Go Go.HW

def Rc.meets (a b : Rc) : Bool := !a.empty && !b.empty && (decide (a.x < b.x + b.w) && decide (b.x < a.x + a.w) && decide (a.y < b.y + b.h) && decide (b.y < a.y + a.h))
def Rc.rboth (a b : Rc) : Rc := if (a.right && b.right && a.meets b) = true then ⟨mx a.x b.x, mx a.y b.y, mn (a.x + a.w) (b.x + b.w) - mx a.x b.x, mn (a.y + a.h) (b.y + b.h) - mx a.y b.y⟩ else ⟨0, 0, 0, 0⟩
def Rc.area (a : Rc) : Int := if (a.right && !a.empty) = true then a.w * a.h else 0
def Rc.hasR (a b : Rc) : Bool := a.right && b.right && (b.empty || decide (a.both b = b))
def Rc.putl (l : List Rc) (r : Rc) : List Rc := if r.empty = true then l else l ++ [r]
def Rc.rless (a b : Rc) : List Rc :=
  if (!(a.right && b.right) || a.empty) = true then [] else if a.meets b = true then
    let c := a.rboth b
    Rc.putl (Rc.putl (Rc.putl (Rc.putl [] ⟨a.x, a.y, a.w, c.y - a.y⟩) ⟨a.x, c.y, c.x - a.x, c.h⟩) ⟨c.x + c.w, c.y, a.x + a.w - c.x - c.w, c.h⟩) ⟨a.x, c.y + c.h, a.w, a.y + a.h - c.y - c.h⟩
  else [a]

theorem w64 {x : Int} (h : -9223372036854775808 ≤ x ∧ x < 9223372036854775808) : IntKind.i64.wrap x = x := wrap_i64 h.1 h.2

section
variable {h : Heap} {R : Value → Heap → Prop}
theorem meets_spec {a b : Rc} (ha : a.Ok) (hb : b.Ok) (H : ∀ h', Ext h h' → R (.bool (a.meets b)) h') : betonyref04_Meets_c a.v b.v h R := by
  apply betonyref04_Meets_runs
  unfold betonyref04_Meets_S
  refine box_intro a.cells (fun k1 h1 hk1 e1 b1 => ?_)
  refine box_intro b.cells (fun k2 h2 hk2 e2 b2 => ?_)
  have b1 := e2.has b1
  unfold Rc.Ok at ha hb
  simp only [ev_off, ev_ld, b1.at, b2.at, Rc.c, Nat.zero_add, List.getElem?_toArray, List.getElem?_cons_succ, List.getElem?_cons_zero, ev_lt, ev_or_p, ev_and_p, ev_add, ev_if]
  rw [w64 (by omega), w64 (by omega), w64 (by omega), w64 (by omega)]
  split
  · rename_i hc
    have : a.meets b = false := by
      unfold Rc.meets Rc.empty
      simp only [Bool.or_eq_true, decide_eq_true_eq] at hc
      simp only [Bool.and_eq_false_iff, Bool.not_eq_false', Bool.or_eq_true, decide_eq_true_eq]
      omega
    rw [← this]; exact H _ (e1.trans e2)
  · rename_i hc
    have : a.meets b = (decide (a.x < b.x + b.w) && decide (b.x < a.x + a.w) && decide (a.y < b.y + b.h) && decide (b.y < a.y + a.h)) := by
      unfold Rc.meets Rc.empty
      simp only [Bool.or_eq_true, decide_eq_true_eq, not_or] at hc
      simp [hc]
    rw [← this]; exact H _ (e1.trans e2)
theorem rboth_spec {a b : Rc} (H : ∀ h', Ext h h' → R (a.rboth b).v h') : betonyref04_Both_c a.v b.v h R := by
  apply betonyref04_Both_runs
  unfold betonyref04_Both_S
  refine box_intro a.cells (fun k1 h1 hk1 e1 b1 => ?_)
  refine box_intro b.cells (fun k2 h2 hk2 e2 b2 => ?_)
  refine new_intro (fun k3 h3 hk3 e3 b3 => ?_)
  have b1 := e3.has (e2.has b1)
  have b2 := e3.has b2
  have e := (e1.trans e2).trans e3
  rw [Rc.ldn b1]
  refine refright_spec (fun h4 e4 => ?_)
  rw [ev_not]
  refine or_ext (y := !b.right) (fun _ K' HK => ?_) (fun h5 e5 => ?_)
  · rw [Rc.ldn (e4.has b2)]
    refine refright_spec (fun h5 e5 => ?_)
    rw [ev_not]; exact HK _ e5
  have e5 := e4.trans e5
  refine or_ext (y := !a.meets b) (fun hx K' HK => ?_) (fun h6 e6 => ?_)
  · rw [Rc.ldn (e5.has b1), Rc.ldn (e5.has b2)]
    simp only [Bool.or_eq_false_iff, Bool.not_eq_false'] at hx
    refine meets_spec (a.right_iff.1 hx.1) (b.right_iff.1 hx.2) (fun h6 e6 => ?_)
    rw [ev_not]; exact HK _ e6
  have e6 := e5.trans e6
  have b1 := e6.has b1
  have b2 := e6.has b2
  have b3 := e6.has b3
  have fin : ∀ q : Rc, q = a.rboth b → sStN h6 (ptr k3 0) q.v 4 fun h_1 => sLdN h_1 (ptr k3 0) 4 fun r8 => R r8 h_1 := by
    rintro q rfl
    refine stn_intro b3 rfl rfl (Rc.cell1 _) (fun h7 b7 s7 o7 => ?_)
    rw [Rc.ldn b7]
    exact H _ ((e.trans e6).off (by have := e1.size; have := e2.size; omega) s7 o7)
  rw [ev_if]
  by_cases hc : (!a.right || !b.right || !a.meets b) = true
  · rw [if_pos hc]
    refine build_intro (cs := (⟨0, 0, 0, 0⟩ : Rc).c) rfl (fin ⟨0, 0, 0, 0⟩ ?_)
    unfold Rc.rboth
    rw [if_neg]
    simp only [Bool.or_eq_true, Bool.not_eq_true'] at hc
    simp only [Bool.and_eq_true, not_and, Bool.not_eq_true]
    rintro ⟨x1, x2⟩
    rcases hc with (hc | hc) | hc
    · rw [x1] at hc; cases hc
    · rw [x2] at hc; cases hc
    · exact hc
  · rw [if_neg hc]
    have hc : a.right = true ∧ b.right = true ∧ a.meets b = true := by revert hc; cases a.right <;> cases b.right <;> cases a.meets b <;> simp
    have er : a.rboth b = ⟨mx a.x b.x, mx a.y b.y, mn (a.x + a.w) (b.x + b.w) - mx a.x b.x, mn (a.y + a.h) (b.y + b.h) - mx a.y b.y⟩ := by
      unfold Rc.rboth; rw [hc.1, hc.2.1, hc.2.2]; rfl
    have ha := a.right_iff.1 hc.1
    have hb := b.right_iff.1 hc.2.1
    unfold Rc.Ok at ha hb
    simp only [ev_off, ev_ld, b1.at, b2.at, Rc.c, Nat.zero_add, List.getElem?_toArray, List.getElem?_cons_succ, List.getElem?_cons_zero, ev_max, ev_min, ev_add, ev_sub]
    rw [w64 (x := a.x + a.w) (by omega), w64 (x := b.x + b.w) (by omega), w64 (x := a.y + a.h) (by omega), w64 (x := b.y + b.h) (by omega)]
    rw [w64 (x := (if b.x + b.w < a.x + a.w then b.x + b.w else a.x + a.w) - _) (by split <;> split <;> omega), w64 (x := (if b.y + b.h < a.y + a.h then b.y + b.h else a.y + a.h) - _) (by split <;> split <;> omega)]
    refine build_intro (cs := (a.rboth b).c) ?_ (fin _ rfl)
    rw [er]
    exact ⟨rfl, Nat.le_of_ble_eq_true rfl, rfl, Nat.le_of_ble_eq_true rfl, rfl, Nat.le_of_ble_eq_true rfl, rfl, Nat.le_of_ble_eq_true rfl, rfl⟩
theorem both_rboth (a b : Rc) : a.both b = a.rboth b := by
  unfold Rc.both Rc.rboth
  by_cases hr : (a.right && b.right) = true
  · have hr' := Bool.and_eq_true_iff.1 hr
    have ha := a.right_iff.1 hr'.1
    have hb := b.right_iff.1 hr'.2
    rw [if_pos hr, hr, Bool.true_and]
    unfold Rc.Ok at ha hb
    unfold rof
    by_cases hm : a.meets b = true
    · rw [if_pos hm, if_neg]
      unfold Rc.meets Rc.empty at hm
      simp only [Bool.and_eq_true, Bool.not_eq_true', Bool.or_eq_false_iff, decide_eq_false_iff_not, decide_eq_true_eq] at hm
      unfold mx mn
      split <;> split <;> split <;> split <;> omega
    · rw [if_neg hm, if_pos]
      unfold Rc.meets Rc.empty at hm
      simp only [Bool.and_eq_true, Bool.not_eq_true', Bool.or_eq_false_iff, decide_eq_false_iff_not, decide_eq_true_eq] at hm
      unfold mx mn
      split <;> split <;> split <;> split <;> omega
  · rw [if_neg hr, if_neg]
    intro hx
    simp only [Bool.and_eq_true] at hx hr
    exact hr hx.1
end
end Go.Proofs.Ytecoejjpdogklaa
