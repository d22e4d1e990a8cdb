/- Rectangles, for grids. -/
import Derived.Test.YthhpieidlpjbmaaGrd
import Derived.Test.YthhpieidlpjbmaaFrectnear
import Derived.Test.YthhpieidlpjbmaaFrectRight
import Derived.Test.YthhpieidlpjbmaaFrectEmpty
import Derived.Test.YthhpieidlpjbmaaFrectof
import Derived.Test.YthhpieidlpjbmaaFrectBoth
import Derived.Test.YthhpieidlpjbmaaFrectArea
import Derived.Test.YthhpieidlpjbmaaFgridnear
set_option linter.unusedSimpArgs false
namespace Go.Proofs.Ythhpieidlpjbmaa
open Go Go.HW

structure Rc where
  x : Int
  y : Int
  w : Int
  h : Int

def Rc.c (r : Rc) : Array Value := #[.int .i64 r.x, .int .i64 r.y, .int .i64 r.w, .int .i64 r.h]
def Rc.v (r : Rc) : Value := .agg r.c
theorem Rc.cells (r : Rc) : r.v.cells = r.c := rfl
theorem Rc.cell1 (r : Rc) : ∀ u ∈ r.c.toList, Cell1 u := by intro u hu; simp [Rc.c] at hu; rcases hu with rfl | rfl | rfl | rfl <;> trivial

theorem Rc.ldn {h : Heap} {b t : Nat} {r : Rc} {K : Value → Prop} (hb : h.has b r.c t) : sLdN h (ptr b 0) 4 K = K r.v := ev_ldn_all (n := 4) hb rfl

def nearB (n : Int) : Bool := decide (-1073741824 ≤ n) && decide (n ≤ 1073741824)
def Rc.right (r : Rc) : Bool := ((((nearB r.x && nearB r.y) && nearB r.w) && nearB r.h) && decide (0 ≤ r.w)) && decide (0 ≤ r.h)
def Rc.Ok (r : Rc) : Prop := (-1073741824 ≤ r.x ∧ r.x ≤ 1073741824) ∧ (-1073741824 ≤ r.y ∧ r.y ≤ 1073741824) ∧ (0 ≤ r.w ∧ r.w ≤ 1073741824) ∧ (0 ≤ r.h ∧ r.h ≤ 1073741824)
theorem Rc.right_iff (r : Rc) : r.right = true ↔ r.Ok := by
  unfold Rc.right nearB Rc.Ok
  simp only [Bool.and_eq_true, decide_eq_true_eq]
  omega
def Rc.empty (r : Rc) : Bool := decide (r.w < 1) || decide (r.h < 1)
def mx (a b : Int) : Int := if a < b then b else a
def mn (a b : Int) : Int := if b < a then b else a
def rof (l t r b : Int) : Rc := if r ≤ l ∨ b ≤ t then ⟨0, 0, 0, 0⟩ else ⟨l, t, r - l, b - t⟩
def Rc.both (a b : Rc) : Rc := if a.right && b.right then rof (mx a.x b.x) (mx a.y b.y) (mn (a.x + a.w) (b.x + b.w)) (mn (a.y + a.h) (b.y + b.h)) else ⟨0, 0, 0, 0⟩

section
variable {h : Heap} {R : Value → Heap → Prop}
theorem rnear_spec {n : Int} (H : R (.bool (nearB n)) h) : rect_near_c (.int .i64 n) h R := by
  apply rect_near_runs
  unfold rect_near_S
  simp only [ev_ge, ev_le, ev_and_p]
  exact H
theorem rright_spec {r : Rc} (H : ∀ h', Ext h h' → R (.bool r.right) h') : rect_Right_c r.v h R := by
  apply rect_Right_runs
  unfold rect_Right_S
  refine box_intro r.cells (fun b h1 hb e1 b1 => ?_)
  rw [ev_off, ev_ld_has b1 rfl]
  refine rnear_spec ?_
  refine and_ext (fun _ K' HK => by rw [ev_off, ev_ld_has b1 rfl]; exact rnear_spec (HK _ (Ext.refl _))) (fun h2 e2 => ?_)
  refine and_ext (fun _ K' HK => by rw [ev_off, ev_ld_has (e2.has b1) rfl]; exact rnear_spec (HK _ (Ext.refl _))) (fun h3 e3 => ?_)
  have e3 := e2.trans e3
  refine and_ext (fun _ K' HK => by rw [ev_off, ev_ld_has (e3.has b1) rfl]; exact rnear_spec (HK _ (Ext.refl _))) (fun h4 e4 => ?_)
  have e4 := e3.trans e4
  simp only [ev_off, ev_ld, (e4.has b1).at, Rc.c, Nat.zero_add, List.getElem?_toArray, List.getElem?_cons_succ, List.getElem?_cons_zero, ev_ge, ev_and_p]
  exact H _ (e1.trans e4)
theorem rempty_spec {r : Rc} (H : ∀ h', Ext h h' → R (.bool r.empty) h') : rect_Empty_c r.v h R := by
  apply rect_Empty_runs
  unfold rect_Empty_S
  refine box_intro r.cells (fun b h1 hb e1 b1 => ?_)
  simp only [ev_off, ev_ld, b1.at, Rc.c, Nat.zero_add, List.getElem?_toArray, List.getElem?_cons_succ, List.getElem?_cons_zero, ev_lt, ev_or_p]
  exact H _ e1
theorem rof_spec {l t r b : Int} (w1 : IntKind.i64.wrap (r - l) = r - l) (w2 : IntKind.i64.wrap (b - t) = b - t) (H : ∀ h', Ext h h' → R (rof l t r b).v h') : rect_of_c (.int .i64 l) (.int .i64 t) (.int .i64 r) (.int .i64 b) h R := by
  apply rect_of_runs
  unfold rect_of_S
  refine new_intro (fun k h1 hk e1 b1 => ?_)
  simp only [ev_le, ev_or_p, ev_if, Bool.or_eq_true, decide_eq_true_eq]
  have fin : ∀ q : Rc, q = rof l t r b → sStN h1 (ptr k 0) q.v 4 fun h_1 => sLdN h_1 (ptr k 0) 4 fun r8 => R r8 h_1 := by
    rintro q rfl
    refine stn_intro b1 rfl rfl (Rc.cell1 _) (fun h2 b2 s2 o2 => ?_)
    rw [Rc.ldn b2]
    exact H _ (e1.off hk s2 o2)
  by_cases hc : r ≤ l ∨ b ≤ t
  · rw [if_pos hc]
    exact fin ⟨0, 0, 0, 0⟩ (by unfold rof; rw [if_pos hc])
  · rw [if_neg hc]
    simp only [ev_sub, w1, w2]
    refine ⟨rfl, Nat.le_of_ble_eq_true rfl, rfl, Nat.le_of_ble_eq_true rfl, rfl, Nat.le_of_ble_eq_true rfl, rfl, Nat.le_of_ble_eq_true rfl, ?_⟩
    exact fin ⟨l, t, r - l, b - t⟩ (by unfold rof; rw [if_neg hc])
theorem rboth_spec {a b : Rc} (H : ∀ h', Ext h h' → R (a.both b).v h') : rect_Both_c a.v b.v h R := by
  apply rect_Both_runs
  unfold rect_Both_S
  refine box_intro a.cells (fun ka h1 ha e1 b1 => ?_)
  refine box_intro b.cells (fun kb h2 hb e2 b2 => ?_)
  refine new_intro (fun kc h3 hc e3 b3 => ?_)
  have l1 := (e2.has b1).lt
  have l2 := b2.lt
  have b1 := e3.has (e2.has b1)
  have b2 := e3.has b2
  have e3 := (e1.trans e2).trans e3
  have fin : ∀ {h5 : Heap} (q : Rc), Ext h3 h5 → q = a.both b → sStN h5 (ptr kc 0) q.v 4 fun h_1 => sLdN h_1 (ptr kc 0) 4 fun r8 => R r8 h_1 := by
    rintro h5 q e5 rfl
    refine stn_intro (e5.has b3) rfl rfl (Rc.cell1 _) (fun h6 b6 s6 o6 => ?_)
    rw [Rc.ldn b6]
    have := e1.size
    have := e2.size
    exact H _ ((e3.trans e5).off (by omega) s6 o6)
  rw [Rc.ldn b1]
  refine rright_spec (fun h4 e4 => ?_)
  rw [ev_not]
  refine or_ext (y := !b.right) (fun _ K' HK => by
    rw [Rc.ldn (e4.has b2)]
    refine rright_spec (fun h5 e5 => ?_)
    rw [ev_not]; exact HK _ e5) (fun h5 e5 => ?_)
  have e5 := e4.trans e5
  rw [ev_if]
  by_cases hr : (a.right && b.right) = true
  · have hr' : (!a.right || !b.right) = false := by simpa using hr
    rw [hr', if_neg (by decide)]
    have hr2 := hr
    rw [Bool.and_eq_true, Rc.right_iff, Rc.right_iff] at hr2
    obtain ⟨⟨x1, x2, x3, x4⟩, y1, y2, y3, y4⟩ := hr2
    have w1 : IntKind.i64.wrap (a.x + a.w) = a.x + a.w := wrap_i64 (by omega) (by omega)
    have w2 : IntKind.i64.wrap (b.x + b.w) = b.x + b.w := wrap_i64 (by omega) (by omega)
    have w3 : IntKind.i64.wrap (a.y + a.h) = a.y + a.h := wrap_i64 (by omega) (by omega)
    have w4 : IntKind.i64.wrap (b.y + b.h) = b.y + b.h := wrap_i64 (by omega) (by omega)
    simp only [ev_off, ev_ld, (e5.has b1).at, (e5.has b2).at, Rc.c, Nat.zero_add, List.getElem?_toArray, List.getElem?_cons_succ, List.getElem?_cons_zero, ev_max, ev_min, ev_add, w1, w2, w3, w4]
    refine rof_spec (l := mx a.x b.x) (t := mx a.y b.y) (r := mn (a.x + a.w) (b.x + b.w)) (b := mn (a.y + a.h) (b.y + b.h)) ?_ ?_ (fun h6 e6 => ?_)
    · unfold mx mn; apply wrap_i64 <;> split <;> split <;> omega
    · unfold mx mn; apply wrap_i64 <;> split <;> split <;> omega
    · exact fin _ (e5.trans e6) (by unfold Rc.both; rw [if_pos hr])
  · have hr' : (!a.right || !b.right) = true := by
      cases h1 : a.right <;> cases h2 : b.right <;> simp [h1, h2] at hr ⊢
    rw [hr', if_pos rfl]
    refine fin ⟨0, 0, 0, 0⟩ e5 (by unfold Rc.both; rw [if_neg hr])
def Rc.area (r : Rc) : Int := if (!r.right || r.empty) = true then 0 else r.w * r.h
theorem rarea_spec {r : Rc} (H : ∀ h', Ext h h' → R (.int .i64 r.area) h') : rect_Area_c r.v h R := by
  apply rect_Area_runs
  unfold rect_Area_S
  refine (HW.Sep.start h).box (c := r.c) r.cells (fun b h1 s1 => ?_)
  rw [s1.ldall (n := 4) rfl]
  refine rright_spec (fun h2 e2 => ?_)
  have s2 := s1.ext' e2
  rw [ev_not]
  refine or_ext (y := r.empty) (fun _ K' HK => by
    rw [s2.ldall (n := 4) rfl]
    exact rempty_spec (fun h3 e3 => HK _ e3)) (fun h3 e3 => ?_)
  have s3 := s2.ext' e3
  rw [ev_if]
  unfold Rc.area at H
  by_cases hc : (!r.right || r.empty) = true
  · rw [if_pos hc] at H ⊢
    exact H _ s3.ext
  · rw [if_neg hc] at H ⊢
    have f2 : ∀ {K : Value → Prop}, sLd h3 (ptr b 2) K = K (.int .i64 r.w) := s3.ld rfl
    have f3 : ∀ {K : Value → Prop}, sLd h3 (ptr b 3) K = K (.int .i64 r.h) := s3.ld rfl
    have hr : r.right = true := by cases h : r.right <;> simp [h] at hc ⊢
    obtain ⟨x1, x2, x3, x4⟩ := (Rc.right_iff r).1 hr
    have m0 : 0 ≤ r.w * r.h := Int.mul_nonneg x3.1 x4.1
    have m1 : r.w * r.h ≤ 1073741824 * 1073741824 := Int.mul_le_mul x3.2 x4.2 x4.1 (by decide)
    simp only [ev_off, Nat.zero_add, f2, f3, ev_mul]
    rw [wrap_i64 (by omega) (by omega)]
    exact H _ s3.ext
theorem gnear_spec {n : Int} (H : R (.bool (nearB n)) h) : grid_near_c (.int .i64 n) h R := by
  apply grid_near_runs
  unfold grid_near_S
  simp only [ev_ge, ev_le, ev_and_p]
  exact H
end
end Go.Proofs.Ythhpieidlpjbmaa
