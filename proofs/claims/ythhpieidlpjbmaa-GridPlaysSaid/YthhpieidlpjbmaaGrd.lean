/- Grids: cells in rows. -/
import Derived.Test.YthhpieidlpjbmaaHwB
import Derived.Test.YthhpieidlpjbmaaFrectwithin
import Derived.Test.YthhpieidlpjbmaaFrectIn
import Derived.Test.YthhpieidlpjbmaaFgridGridSize
import Derived.Test.YthhpieidlpjbmaaFgridGridall
import Derived.Test.YthhpieidlpjbmaaFgridGridrow
import Derived.Test.YthhpieidlpjbmaaFgridGridAt
import Derived.Test.YthhpieidlpjbmaaFgridGridSet
import Derived.Test.YthhpieidlpjbmaaFgridGridClone
import Derived.Test.YthhpieidlpjbmaaFgridNew
import Derived.Test.YthhpieidlpjbmaaFslicesCloneapiCellapiCell
set_option linter.unusedSimpArgs false
set_option linter.unusedVariables false
namespace Go.Proofs.Ythhpieidlpjbmaa
open Go Go.HW

/-- A cell. -/
structure Ce where
  r : Int
  f : Int
  b : Int
  g : Int
def ce0 : Ce := ⟨0, 0, 0, 0⟩
def encCe (c : Ce) : List Value := [.int .i32 c.r, .int .i64 c.f, .int .i64 c.b, .int .i64 c.g]
def Ce.a (c : Ce) : Array Value := #[.int .i32 c.r, .int .i64 c.f, .int .i64 c.b, .int .i64 c.g]
theorem ce_enc (c : Ce) : (encCe c).toArray = c.a := rfl
theorem encCe_len (c : Ce) : (encCe c).length = 4 := rfl
theorem encCe_cell (c : Ce) : ∀ u ∈ encCe c, Cell1 u := by intro u hu; simp [encCe] at hu; rcases hu with rfl | rfl | rfl | rfl <;> trivial
theorem ce_cell (c : Ce) : ∀ u ∈ c.a.toList, Cell1 u := encCe_cell c
theorem ce_ok (c : Ce) : okC [some .i32, some .i64, some .i64, some .i64] c.a.toList := by simp [Ce.a, okC]
theorem eqVs_selfG : ∀ {ks : List (Option IntKind)} {l : List Value}, okC ks l → eqVs l l = true
  | [], [], _ => rfl
  | some k :: ks, .int _ a :: l, h => by simp [eqVs, eqV, eqVs_selfG h.2]
  | none :: ks, .bool a :: l, h => by simp [eqVs, eqV, eqVs_selfG (ks := ks) h]
def grd (w h : Int) (v : Value) : Array Value := #[.int .i64 w, .int .i64 h, v]
def inG (w h x y : Int) : Bool := decide (0 ≤ x) && decide (x < w) && (decide (0 ≤ y) && decide (y < h))
theorem inG_iff {w h x y : Int} : inG w h x y = true ↔ (0 ≤ x ∧ x < w) ∧ (0 ≤ y ∧ y < h) := by simp [inG]
def cell (l : List Ce) (w h x y : Int) : Ce := if inG w h x y = true then l.getD (y * w + x).toNat ce0 else ce0
/-- A right size. -/
def szOk (w h : Int) (l : List Ce) : Prop := 1 ≤ w ∧ w ≤ 512 ∧ 1 ≤ h ∧ h ≤ 512 ∧ (l.length : Int) = w * h
theorem mul_nat {x y : Int} (hx : 0 ≤ x) (hy : 0 ≤ y) : 0 ≤ x * y := Int.mul_nonneg hx hy
theorem sz_mul {w h y : Int} (hw : 1 ≤ w ∧ w ≤ 512) (hh : h ≤ 512) (hy : 0 ≤ y ∧ y < h) : 0 ≤ y * w ∧ y * w + w ≤ h * w ∧ h * w ≤ 262144 ∧ (y + 1) * w = y * w + w := by
  have h1 : (y + 1) * w = y * w + w := by rw [Int.add_mul, Int.one_mul]
  have h2 : (y + 1) * w ≤ h * w := Int.mul_le_mul_of_nonneg_right (by omega) (by omega)
  have h3 : h * w ≤ 512 * w := Int.mul_le_mul_of_nonneg_right hh (by omega)
  exact ⟨Int.mul_nonneg hy.1 (by omega), by omega, by omega, h1⟩

section
variable {h0 h : Heap} {F : List HP} {R : Value → Heap → Prop}
def i64 (n : Int) : Prop := -9223372036854775808 ≤ n ∧ n ≤ 9223372036854775807
theorem within_spec {n m : Int} (hn : i64 n) (hm : i64 m) (H : R (.bool (decide (0 ≤ n) && decide (n < m))) h) : rect_within_c (.int .i64 n) (.int .i64 0) (.int .i64 m) h R := by
  apply rect_within_runs
  unfold rect_within_S
  simp only [ev_gt, ev_ge, ev_conv, ev_sub, ev_lt, ev_and_p, wrap_u64]
  have e : (decide (m > 0) && decide (n ≥ 0) && decide ((n % 18446744073709551616 - 0 % 18446744073709551616) % 18446744073709551616 < m % 18446744073709551616)) = (decide (0 ≤ n) && decide (n < m)) := by
    unfold i64 at hn hm
    rw [Bool.eq_iff_iff]
    simp only [Bool.and_eq_true, decide_eq_true_eq]
    omega
  rw [e]
  exact H
def allC (w h : Int) : Array Value := #[.int .i64 0, .int .i64 0, .int .i64 w, .int .i64 h]
theorem allC_cell (w h : Int) : ∀ u ∈ (allC w h).toList, Cell1 u := by intro u hu; simp [allC] at hu; rcases hu with rfl | rfl | rfl <;> trivial
theorem rin_spec {w g x y : Int} (hw : i64 w) (hg : i64 g) (hx : i64 x) (hy : i64 y) (H : ∀ h', Ext h h' → R (.bool (inG w g x y)) h') : rect_In_c (.agg (allC w g)) (.int .i64 x) (.int .i64 y) h R := by
  apply rect_In_runs
  unfold rect_In_S
  refine (HW.Sep.start h).box (c := allC w g) rfl (fun b h1 s1 => ?_)
  have f0 : ∀ {K : Value → Prop}, sLd h1 (ptr b 0) K = K (.int .i64 0) := s1.ld rfl
  have f1 : ∀ {K : Value → Prop}, sLd h1 (ptr b 1) K = K (.int .i64 0) := s1.ld rfl
  have f2 : ∀ {K : Value → Prop}, sLd h1 (ptr b 2) K = K (.int .i64 w) := s1.ld rfl
  have f3 : ∀ {K : Value → Prop}, sLd h1 (ptr b 3) K = K (.int .i64 g) := s1.ld rfl
  simp only [ev_off, Nat.zero_add, f0, f2]
  refine within_spec hx hw ?_
  refine and_ext (fun _ K' HK => by
    rw [f1, f3]
    exact within_spec hy hg (HK _ (Ext.refl _))) (fun h2 e2 => ?_)
  exact H _ (s1.ext.trans e2)
variable {b : Nat} {w g : Int} {v : Value} {l : List Ce}
theorem size_spec (s : HW.Sep h0 (Blk b (grd w g v) 68 :: F) h) (H : R (.tuple #[.int .i64 w, .int .i64 g]) h) : grid_Grid_Size_c (ptr b 0) h R := by
  apply grid_Grid_Size_runs
  unfold grid_Grid_Size_S
  have f0 : ∀ {K : Value → Prop}, sLd h (ptr b 0) K = K (.int .i64 w) := s.ld rfl
  have f1 : ∀ {K : Value → Prop}, sLd h (ptr b 1) K = K (.int .i64 g) := s.ld rfl
  simp only [ev_nil, ev_off, Nat.zero_add, f0, f1]
  exact H
theorem all_spec (s : HW.Sep h0 (Blk b (grd w g v) 68 :: F) h) (H : ∀ h', Ext h h' → R (.agg (allC w g)) h') : grid_Grid_all_c (ptr b 0) h R := by
  apply grid_Grid_all_runs
  unfold grid_Grid_all_S
  refine (HW.Sep.start h).new (fun k h1 s1 => ?_)
  have f0 : ∀ {K : Value → Prop}, sLd h1 (ptr b 0) K = K (.int .i64 w) := (s.ext' s1.ext).ld rfl
  have f1 : ∀ {K : Value → Prop}, sLd h1 (ptr b 1) K = K (.int .i64 g) := (s.ext' s1.ext).ld rfl
  simp only [ev_nil, ev_off, Nat.zero_add, f0, f1]
  refine build_intro (cs := allC w g) ⟨rfl, Nat.le_of_ble_eq_true rfl, rfl, Nat.le_of_ble_eq_true rfl, rfl⟩ ?_
  refine s1.stall (cs := allC w g) rfl rfl (allC_cell _ _) (fun h2 s2 => ?_)
  rw [s2.ldall (n := 4) rfl]
  exact H h2 s2.ext
theorem row_spec {y : Int} (s : HW.Sep h0 (Blk b (grd w g v) 68 :: Sl encCe 4 v l :: F) h) (z : szOk w g l) (hy : 0 ≤ y ∧ y < g) (H : R (HW.cutP v (y * w).toNat ((y + 1) * w).toNat 4) h) : grid_Grid_row_c (ptr b 0) (.int .i64 y) h R := by
  apply grid_Grid_row_runs
  unfold grid_Grid_row_S
  have f0 : ∀ {K : Value → Prop}, sLd h (ptr b 0) K = K (.int .i64 w) := s.ld rfl
  have f2 : ∀ {K : Value → Prop}, sLd h (ptr b 2) K = K v := s.ld rfl
  obtain ⟨z1, z2, z3, z4, z5⟩ := z
  have m := sz_mul ⟨z1, z2⟩ z4 hy
  rw [Int.mul_comm w g] at z5
  simp only [ev_nil, ev_off, Nat.zero_add, f0, f2, ev_mul, ev_add]
  rw [wrap_i64 (by omega) (by omega), wrap_i64 (x := y + 1) (by omega) (by omega), wrap_i64 (by omega) (by omega)]
  obtain ⟨i, hi⟩ : ∃ i : Nat, y * w = i := ⟨(y * w).toNat, by omega⟩
  obtain ⟨j, hj⟩ : ∃ j : Nat, (y + 1) * w = j := ⟨((y + 1) * w).toNat, by omega⟩
  rw [hi, hj] at H ⊢
  exact s.b1.seq.slK (by omega) (by omega) ⟨.i64, rfl⟩ ⟨.i64, rfl⟩ H
theorem idx {x y : Int} (z : szOk w g l) (hx : 0 ≤ x ∧ x < w) (hy : 0 ≤ y ∧ y < g) : ∃ i j k : Nat, y * w = i ∧ (y + 1) * w = j ∧ x = k ∧ i + k < j ∧ j ≤ l.length ∧ (y * w + x).toNat = i + k := by
  obtain ⟨z1, z2, z3, z4, z5⟩ := z
  have m := sz_mul ⟨z1, z2⟩ z4 hy
  rw [Int.mul_comm w g] at z5
  exact ⟨(y * w).toNat, ((y + 1) * w).toNat, x.toNat, by omega, by omega, by omega, by omega, by omega, by omega⟩
theorem cut_get {i j k : Nat} (h1 : i + k < j) (h2 : j ≤ l.length) : ((l.take j).drop i)[k]? = some (l.getD (i + k) ce0) := by
  rw [List.getElem?_drop, List.getElem?_take_of_lt h1, List.getD_eq_getElem?_getD, List.getElem?_eq_getElem (by omega)]; rfl
theorem at_spec {x y : Int} (hx : i64 x) (hy : i64 y) (s : HW.Sep h0 (Blk b (grd w g v) 68 :: Sl encCe 4 v l :: F) h) (z : szOk w g l) (H : ∀ h', Ext h h' → R (.agg (cell l w g x y).a) h') : grid_Grid_At_c (ptr b 0) (.int .i64 x) (.int .i64 y) h R := by
  apply grid_Grid_At_runs
  unfold grid_Grid_At_S
  refine (HW.Sep.start h).new (fun k h1 s1 => ?_)
  refine all_spec (s.ext' s1.ext) (fun h2 e2 => ?_)
  have zz := z
  obtain ⟨z1, z2, z3, z4, z5⟩ := zz
  refine rin_spec (by unfold i64; omega) (by unfold i64; omega) hx hy (fun h3 e3 => ?_)
  have s3 := (s1.ext' e2).ext' e3
  have sg := s.ext' s3.ext
  rw [ev_not, ev_if]
  unfold cell at H
  cases hin : inG w g x y with
  | false =>
    rw [hin, if_neg (by decide)] at H
    rw [if_pos (by decide)]
    refine build_intro (cs := ce0.a) rfl ?_
    refine s3.stall (cs := ce0.a) rfl rfl (ce_cell _) (fun h4 s4 => ?_)
    rw [s4.ldall (n := 4) rfl]
    exact H h4 s4.ext
  | true =>
    rw [hin, if_pos rfl] at H
    rw [if_neg (by decide)]
    obtain ⟨ix, iy⟩ := inG_iff.1 hin
    refine row_spec sg z iy ?_
    obtain ⟨i, j, n, e1, e2, rfl, h5, h6, e3⟩ := idx z ix iy
    rw [e3] at H
    rw [e1, e2, Int.toNat_natCast, Int.toNat_natCast]
    have q := sg.b1.seq.cutP (i := i) (j := j) (by omega) h6
    rw [q.ldn (cut_get h5 h6) rfl]
    refine s3.stall (cs := (l.getD (i + n) ce0).a) rfl rfl (ce_cell _) (fun h4 s4 => ?_)
    rw [s4.ldall (n := 4) rfl]
    exact H h4 s4.ext
def setC (l : List Ce) (w h x y : Int) (c : Ce) : List Ce := if inG w h x y = true then l.set (y * w + x).toNat c else l
theorem setC_len (l : List Ce) (w h x y : Int) (c : Ce) : (setC l w h x y c).length = l.length := by unfold setC; split <;> simp
theorem eltP_cut {i j k : Nat} (q : Seq encCe 4 h v l) (hk : i + k < j) (hj : j ≤ l.length) : eltP (HW.cutP v i j 4) k 4 = eltP v (i + k) 4 := by
  obtain ⟨a, n, m, rfl, hn, hm, h2 | ⟨b, o, rfl, hb, hc⟩⟩ := q
  · omega
  · simp only [HW.cutP, cutV]
    rw [if_neg (show ¬ m = i by omega)]
    simp only [Option.map_some, Addr.add, eltP]
    split
    · rename_i h0
      show ptr b (o + k * 4) = ptr b (o + (i + k) * 4)
      congr 1; omega
    · show ptr b (o + i * 4 + k * 4) = ptr b (o + (i + k) * 4)
      congr 1; omega
theorem set_spec {x y : Int} {c : Ce} (hx : i64 x) (hy : i64 y) (s : HW.Sep h0 (Blk b (grd w g v) 68 :: Sl encCe 4 v l :: F) h) (z : szOk w g l) (H : ∀ h', HW.Sep h0 (Blk b (grd w g v) 68 :: Sl encCe 4 v (setC l w g x y c) :: F) h' → R (.bool (inG w g x y)) h') : grid_Grid_Set_c (ptr b 0) (.int .i64 x) (.int .i64 y) (.agg c.a) h R := by
  apply grid_Grid_Set_runs
  unfold grid_Grid_Set_S
  refine (HW.Sep.start h).box (c := c.a) rfl (fun k h1 s1 => ?_)
  refine all_spec (s.ext' s1.ext) (fun h2 e2 => ?_)
  have zz := z
  obtain ⟨z1, z2, z3, z4, z5⟩ := zz
  refine rin_spec (by unfold i64; omega) (by unfold i64; omega) hx hy (fun h3 e3 => ?_)
  have s3 := (s1.ext' e2).ext' e3
  have sg := s.ext' s3.ext
  rw [ev_if]
  unfold setC at H
  unfold grid_Grid_Set_j1
  cases hin : inG w g x y with
  | false =>
    rw [hin, if_neg (by decide)] at H
    rw [if_neg (by decide)]
    exact H h3 sg
  | true =>
    rw [hin, if_pos rfl] at H
    rw [if_pos rfl]
    obtain ⟨ix, iy⟩ := inG_iff.1 hin
    refine ⟨fun h' => h'.has k c.a 27, s3.has, ?_⟩
    refine row_spec sg z iy ⟨s3.has, ?_⟩
    have cA : ∀ {K : Value → Prop}, sLdNC (fun h' => h'.has k c.a 27) (ptr k 0) 4 K = K (.agg c.a) := fun {K} => ldnc_all (C := fun h' => h'.has k c.a 27) (h0 := h3) s3.has rfl (fun _ x => x)
    rw [cA]
    obtain ⟨i, j, n, e1, e2, rfl, h5, h6, e3⟩ := idx z ix iy
    rw [e3] at H
    rw [e1, e2, Int.toNat_natCast, Int.toNat_natCast]
    have q := sg.b1.seq
    have qc := q.cutP (i := i) (j := j) (by omega) h6
    rw [qc.elt (by rw [List.length_drop, List.length_take]; omega), eltP_cut q h5 h6]
    exact sg.b1.setn encCe_len encCe_cell (by omega) c (fun h4 s4 => H h4 s4.b1)
theorem new_spec {w g : Int} (hw : i64 w) (hg : i64 g) (H0 : ¬(1 ≤ w ∧ w ≤ 512 ∧ 1 ≤ g ∧ g ≤ 512) → R (.pointer none) h) (H1 : (1 ≤ w ∧ w ≤ 512 ∧ 1 ≤ g ∧ g ≤ 512) → ∀ b v h', szOk w g (List.replicate (w * g).toNat ce0) → HW.Sep h [Blk b (grd w g v) 68, Sl encCe 4 v (List.replicate (w * g).toNat ce0)] h' → R (ptr b 0) h') : grid_New_c (.int .i64 w) (.int .i64 g) h R := by
  apply grid_New_runs
  unfold grid_New_S
  simp only [ev_lt, ev_gt, ev_or_p, ev_if, Bool.or_eq_true, decide_eq_true_eq]
  by_cases hc : 1 ≤ w ∧ w ≤ 512 ∧ 1 ≤ g ∧ g ≤ 512
  · rw [if_neg (by omega)]
    have m := sz_mul (w := w) (h := g) (y := 0) ⟨hc.1, hc.2.1⟩ hc.2.2.2 ⟨by omega, by omega⟩
    rw [Int.mul_comm g w] at m
    have m0 : 0 ≤ w * g := Int.mul_nonneg (by omega) (by omega)
    rw [ev_mul, wrap_i64 (by omega) (by omega)]
    refine (HW.Sep.start h).make (enc := encCe) (sz := 4) encCe_len ce0 rfl (w * g).toNat (w * g).toNat (by omega) (by omega) (Nat.le_refl _) (by omega) (by omega) (fun v h2 cv s2 => ?_)
    obtain ⟨va, vn, vm, rfl, _⟩ := s2.seq
    refine build_intro (cs := grd w g (.slice va vn vm)) ⟨rfl, Nat.le_of_ble_eq_true rfl, rfl, Nat.le_of_ble_eq_true rfl, rfl, Nat.le_of_ble_eq_true rfl, rfl⟩ ?_
    refine s2.box (c := grd w g (.slice va vn vm)) rfl (fun b h3 s3 => ?_)
    exact H1 hc b _ h3 ⟨hc.1, hc.2.1, hc.2.2.1, hc.2.2.2, by rw [List.length_replicate]; omega⟩ s3
  · rw [if_pos (by omega)]
    exact H0 hc
theorem clone_cells {F : List HP} (q : HW.Rd encCe 4 h0 F v l) (s : HW.Sep h0 F h) (hl : 1 ≤ l.length) (hl2 : l.length ≤ 262144) (H : ∀ v' h', Cell1 v' → HW.Sep h0 (Sl encCe 4 v' l :: F) h' → R v' h') : slices_Clone_api_Cell_api_Cell_c v h R := by
  apply slices_Clone_api_Cell_api_Cell_runs
  unfold slices_Clone_api_Cell_api_Cell_S
  have q0 := q.at0 s
  obtain ⟨a, n, m, rfl, hn, hm, h2 | ⟨b, o, rfl, hb, hc⟩⟩ := q0
  · omega
  · rw [ev_eqlNilS, Option.isNone_some, ev_if, if_neg (by decide)]
    refine s.slit (enc := encCe) (sz := 4) encCe_len [] rfl rfl (fun a h1 _ s1 => ?_)
    refine s1.app (enc := encCe) (sz := 4) rfl (by decide) encCe_len encCe_cell (q.at1 s1) (by simp only [List.length_nil]; omega) (by decide) (fun v' h2 c2 s2 => ?_)
    exact H v' h2 c2 s2
theorem clone_spec (s : HW.Sep h0 (Blk b (grd w g v) 68 :: Sl encCe 4 v l :: F) h) (z : szOk w g l) (H : ∀ b' v' h', HW.Sep h0 (Blk b' (grd w g v') 68 :: Sl encCe 4 v' l :: Blk b (grd w g v) 68 :: Sl encCe 4 v l :: F) h' → R (ptr b' 0) h') : grid_Grid_Clone_c (ptr b 0) h R := by
  apply grid_Grid_Clone_runs
  unfold grid_Grid_Clone_S
  refine ⟨fun h' => h'.has b (grd w g v) 68, s.has, ?_⟩
  have at_ : ∀ {o : Nat} {u : Value} {K : Value → Prop}, (grd w g v)[o]? = some u → sLdC (fun h' => h'.has b (grd w g v) 68) (ptr b o) K = K u := fun hv => ldc_at (C := fun h' => h'.has b (grd w g v) 68) (h0 := h) s.has (fun h' e => by rw [e.at, hv])
  simp only [ev_nil, ev_off, Nat.zero_add]
  have f2 : ∀ {K : Value → Prop}, sLd h (ptr b 2) K = K v := s.ld rfl
  rw [at_ (o := 0) rfl, at_ (o := 1) rfl]
  first | rw [at_ (o := 2) rfl] | rw [f2]
  obtain ⟨z1, z2, z3, z4, z5⟩ := z
  have m := sz_mul (w := w) (h := g) (y := 0) ⟨z1, z2⟩ z4 ⟨by omega, by omega⟩
  have m1 : 1 * 1 ≤ w * g := Int.mul_le_mul z1 z3 (by decide) (by omega)
  rw [Int.mul_comm g w] at m
  refine clone_cells (F := Blk b (grd w g v) 68 :: Sl encCe 4 v l :: F) Rd.own1 s (by omega) (by omega) (fun v' h1 c1 s1 => ⟨s1.b1.has, ?_⟩)
  obtain ⟨va, vn, vm, rfl, _⟩ := s1.seq
  refine build_intro (cs := grd w g (.slice va vn vm)) ⟨rfl, Nat.le_of_ble_eq_true rfl, rfl, Nat.le_of_ble_eq_true rfl, rfl, Nat.le_of_ble_eq_true rfl, rfl⟩ ?_
  refine s1.box (c := grd w g (.slice va vn vm)) rfl (fun b' h2 s2 => ?_)
  exact H b' _ h2 s2
end
end Go.Proofs.Ythhpieidlpjbmaa
