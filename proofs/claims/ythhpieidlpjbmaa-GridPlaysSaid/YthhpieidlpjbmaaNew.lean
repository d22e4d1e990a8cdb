/- Grids: sizes, clones, what is the same. -/
import Derived.Test.YthhpieidlpjbmaaAwg
import Derived.Test.YthhpieidlpjbmaaFgridGridRow
import Derived.Test.YthhpieidlpjbmaaFgridGridEqual
import Derived.Test.YthhpieidlpjbmaaFgridGridResize
import Derived.Test.YthhpieidlpjbmaaFslicesEqualapiCellapiCell
import Derived.Test.YthhpieidlpjbmaaFbetonyref06Right
set_option linter.unusedSimpArgs false
set_option linter.unusedVariables false
namespace Go.Proofs.Ythhpieidlpjbmaa
open Go Go.HW

instance : DecidableEq Ce := fun a b => decidable_of_iff (a.r = b.r ∧ a.f = b.f ∧ a.b = b.b ∧ a.g = b.g) ⟨fun ⟨h1, h2, h3, h4⟩ => by cases a; cases b; simp only at h1 h2 h3 h4; subst h1 h2 h3 h4; rfl, fun e => by subst e; exact ⟨rfl, rfl, rfl, rfl⟩⟩
theorem eqVs_ce (a b : Ce) : eqVs a.a.toList b.a.toList = decide (a = b) := by
  have : eqVs a.a.toList b.a.toList = (a.r == b.r && (a.f == b.f && (a.b == b.b && (a.g == b.g && true)))) := by simp [Ce.a, eqVs, eqV]
  rw [this, Bool.eq_iff_iff]
  simp only [Bool.and_eq_true, beq_iff_eq, decide_eq_true_eq, and_true]
  exact ⟨fun ⟨h1, h2, h3, h4⟩ => by cases a; cases b; simp only at h1 h2 h3 h4; subst h1 h2 h3 h4; rfl, fun e => by subst e; exact ⟨rfl, rfl, rfl, rfl⟩⟩

section
variable {h0 h : Heap} {F : List HP} {R : Value → Heap → Prop}
theorem eq_ce {a b : Ce} {K : Value → Prop} : sEqlAgg (.agg a.a) (.agg b.a) [some .i32, some .i64, some .i64, some .i64] K = K (.bool (decide (a = b))) := by
  rw [ev_eqlAgg (ce_ok a) (ce_ok b), eqVs_ce]
theorem ne_ce {a b : Ce} {K : Value → Prop} : sNeqAgg (.agg a.a) (.agg b.a) [some .i32, some .i64, some .i64, some .i64] K = K (.bool (!decide (a = b))) := by
  rw [ev_neqAgg (ce_ok a) (ce_ok b), eqVs_ce]
theorem sequal_spec {u u' : Value} {n m : List Ce} (hn : n.length ≤ 300000) (q : Seq encCe 4 h u n) (q' : Seq encCe 4 h u' m) (H : R (.bool (decide (n = m))) h) : slices_Equal_api_Cell_api_Cell_c u u' h R := by
  apply slices_Equal_api_Cell_api_Cell_runs
  unfold slices_Equal_api_Cell_api_Cell_S
  rw [q.len, q'.len, ev_ne, ev_if]
  by_cases hl : n.length = m.length
  · rw [if_neg (by simp [hl]), q.len]
    refine ⟨fun t h' => ∃ i : Nat, i ≤ n.length ∧ t = .int .i64 i ∧ h' = h ∧ n.take i = m.take i, fun t _ => match t with | .int _ i => (n.length - i).toNat | _ => 0, ⟨0, Nat.zero_le _, rfl, rfl, rfl⟩, ?_⟩
    rintro _ h' ⟨i, hi, rfl, e, ht⟩
    subst e
    simp only []
    unfold slices_Equal_api_Cell_api_Cell_l1
    rw [ev_lt, ev_if]
    by_cases hlt : i < n.length
    · rw [if_pos (by simpa using hlt)]
      have hg : n[i]? = some n[i] := List.getElem?_eq_getElem hlt
      have hg' : m[i]? = some (m[i]'(by omega)) := List.getElem?_eq_getElem (by omega)
      generalize n[i] = a at hg
      generalize m[i]'(by omega) = b at hg'
      rw [q.ldn hg rfl, q'.ldn hg' rfl, ce_enc, ce_enc, ne_ce, ev_if]
      by_cases hab : a = b
      · subst hab
        rw [if_neg (by simp), ev_add, wrap_i64 (by omega) (by omega)]
        exact ⟨⟨i + 1, hlt, rfl, rfl, by rw [List.take_add_one, List.take_add_one, hg, hg', ht]⟩, by simp only; omega⟩
      · rw [if_pos (by simp [hab])]
        have : n ≠ m := fun e => by subst e; rw [hg] at hg'; cases hg'; exact hab rfl
        rw [decide_eq_false this] at H; exact H
    · rw [if_neg (by simpa using hlt)]
      have : n = m := by rwa [List.take_of_length_le (by omega), List.take_of_length_le (by omega)] at ht
      rw [decide_eq_true this] at H; exact H
  · rw [if_pos (by simpa using fun e => hl (by omega))]
    have : n ≠ m := fun e => hl (by rw [e])
    rw [decide_eq_false this] at H; exact H
theorem rright6_spec {w g : Int} (H : R (.bool (decide (1 ≤ w ∧ w ≤ 512 ∧ 1 ≤ g ∧ g ≤ 512))) h) : betonyref06_Right_c (.int .i64 w) (.int .i64 g) h R := by
  apply betonyref06_Right_runs
  unfold betonyref06_Right_S
  simp only [ev_ge, ev_le, ev_and_p, ge_iff_le]
  have : (decide (1 ≤ w) && decide (w ≤ 512) && decide (1 ≤ g) && decide (g ≤ 512)) = decide (1 ≤ w ∧ w ≤ 512 ∧ 1 ≤ g ∧ g ≤ 512) := by
    rw [Bool.eq_iff_iff]; simp only [Bool.and_eq_true, decide_eq_true_eq]; omega
  rw [this]; exact H
variable {kg : Nat} {w g : Int} {v : Value} {l : List Ce}
theorem row_nil {y : Int} (hy : y < 0 ∨ g ≤ y) (s : HW.Sep h0 (Blk kg (grd w g v) 68 :: F) h) (H : R (.slice none 0 0) h) : grid_Grid_Row_c (ptr kg 0) (.int .i64 y) h R := by
  apply grid_Grid_Row_runs
  unfold grid_Grid_Row_S
  have f1 : ∀ {K : Value → Prop}, sLd h (ptr kg 1) K = K (.int .i64 g) := s.ld rfl
  simp only [ev_lt, ev_ge, ev_nil, ev_off, Nat.zero_add, f1, ev_or_p, ev_if]
  rw [if_pos (by simp only [Bool.or_eq_true, decide_eq_true_eq]; omega)]
  exact H
theorem resize_nil {x : Value} {w' g' : Int} (hw : i64 w') (hg : i64 g') (hc : ¬(1 ≤ w' ∧ w' ≤ 512 ∧ 1 ≤ g' ∧ g' ≤ 512)) (H : R (.pointer none) h) : grid_Grid_Resize_c x (.int .i64 w') (.int .i64 g') h R := by
  apply grid_Grid_Resize_runs
  unfold grid_Grid_Resize_S
  refine new_spec hw hg (fun _ => ?_) (fun hc' => (hc hc').elim)
  simp only [ev_neqNil, Option.isNone_none, Bool.not_true, ev_if, Bool.false_eq_true, if_false]
  exact H
/-- A row as a slice of one's own. -/
theorem rowO_spec {y : Int} (s : HW.Sep h0 (Blk kg (grd w g v) 68 :: Sl encCe 4 v l :: F) h) (z : szOk w g l) (hy : 0 ≤ y ∧ y < g) (H : ∀ v' h', HW.Sep h0 (Sl encCe 4 v' ((l.take ((y + 1) * w).toNat).drop (y * w).toNat) :: Blk kg (grd w g v) 68 :: Sl encCe 4 v l :: F) h' → R v' h') : grid_Grid_Row_c (ptr kg 0) (.int .i64 y) h R := by
  apply grid_Grid_Row_runs
  unfold grid_Grid_Row_S
  have f1 : ∀ {K : Value → Prop}, sLd h (ptr kg 1) K = K (.int .i64 g) := s.ld rfl
  simp only [ev_lt, ev_ge, ev_nil, ev_off, Nat.zero_add, f1, ev_or_p, ev_if]
  rw [if_neg (by simp only [Bool.or_eq_true, decide_eq_true_eq]; omega)]
  refine row_spec s z hy ?_
  have zz := z
  obtain ⟨z1, z2, z3, z4, z5⟩ := zz
  have m := sz_mul ⟨z1, z2⟩ z4 hy
  rw [Int.mul_comm w g] at z5
  have rd : HW.Rd encCe 4 h0 (Blk kg (grd w g v) 68 :: Sl encCe 4 v l :: F) v l := Rd.own1
  exact clone_cells (rd.cut (i := (y * w).toNat) (j := ((y + 1) * w).toNat) (by omega) (by omega)) s (by rw [List.length_drop, List.length_take]; omega) (by rw [List.length_drop, List.length_take]; omega) (fun v' h1 c1 s1 => H v' h1 s1)
end
end Go.Proofs.Ythhpieidlpjbmaa
