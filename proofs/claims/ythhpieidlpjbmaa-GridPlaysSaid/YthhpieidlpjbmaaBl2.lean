/- Grids: cells copied to another grid. -/
import Derived.Test.YthhpieidlpjbmaaBli
set_option linter.unusedSimpArgs false
set_option linter.unusedVariables false
namespace Go.Proofs.Ythhpieidlpjbmaa
open Go Go.HW

section
variable {h0 h : Heap} {F : List HP} {R : Value → Heap → Prop}
/-- A copy into another grid. -/
theorem j2_spec2 {kg kt k7 k11 k12 : Nat} {w g x y w' g' : Int} {v v' : Value} {l l' : List Ce} {r fr it : Rc} (z : szOk w g l) (z' : szOk w' g' l') (wx : -1073741824 ≤ x ∧ x ≤ 1073741824) (wy : -1073741824 ≤ y ∧ y ≤ 1073741824) (hr : r.Ok) (hfr : fr = frR r w g x y) (hit : it = itR r w g x y w' g')
    (s : HW.Sep h0 (Blk k12 it.c 23 :: Blk k11 fr.c 23 :: Blk k7 r.c 23 :: Blk kg (grd w g v) 68 :: Sl encCe 4 v l :: Blk kt (grd w' g' v') 68 :: Sl encCe 4 v' l' :: F) h)
    (H0 : (fr.empty || it.empty) = true → ∀ h', HW.Sep h0 (Blk kg (grd w g v) 68 :: Sl encCe 4 v l :: Blk kt (grd w' g' v') 68 :: Sl encCe 4 v' l' :: F) h' → R (.int .i64 0) h')
    (H1 : (fr.empty || it.empty) = false → ∀ h', HW.Sep h0 (Blk kg (grd w g v) 68 :: Sl encCe 4 v l :: Blk kt (grd w' g' v') 68 :: Sl encCe 4 v' (putRows l' w' it.x it.y (srow l w (it.x - x + r.x) (it.y - y + r.y) it.w) it.h.toNat) :: F) h' → R (.int .i64 (it.w * it.h)) h') :
    grid_Grid_Blit_j2 R (ptr kg 0) (ptr kt 0) (.int .i64 x) (.int .i64 y) (ptr k7 0) (ptr k11 0) (ptr k12 0) h := by
  unfold grid_Grid_Blit_j2
  rw [s.b1.ldall (n := 4) rfl]
  refine rempty_spec (r := fr) (fun h1 e1 => ?_)
  have s1 := s.ext' e1
  refine or_ext (y := it.empty) (fun _ K' HK => by
    rw [s1.ldall (n := 4) rfl]
    exact rempty_spec (r := it) (fun h2 e2 => HK _ e2)) (fun h2 e2 => ?_)
  have s2 := s1.ext' e2
  rw [ev_if]
  cases he : (fr.empty || it.empty) with
  | true => rw [if_pos rfl]; exact H0 he h2 (s2.tail2.tail)
  | false =>
    rw [if_neg (by decide)]
    have hie : it.empty = false := (Bool.or_eq_false_iff.1 he).2
    rw [hit] at hie
    obtain ⟨g1, g2, g3, g4, g5, g6⟩ := geo hie
    rw [← hit] at g1 g2 g3 g4 g5 g6
    have zz := z
    obtain ⟨z1, z2, z3, z4, z5⟩ := zz
    have zz' := z'
    obtain ⟨y1, y2, y3, y4, y5⟩ := zz'
    have f3 : ∀ {K : Value → Prop}, sLd h2 (ptr k12 3) K = K (.int .i64 it.h) := s2.ld rfl
    rw [ev_off, Nat.zero_add, f3]
    have har : it.area = it.w * it.h := by
      unfold Rc.area
      have : it.right = true := (Rc.right_iff it).2 (by unfold Rc.Ok; omega)
      rw [this]
      have : it.empty = false := by rw [hit]; exact hie
      rw [this]; rfl
    refine l3_spec (x1 := ptr kt 0) z wx wy hr ⟨by omega, by omega⟩ g1 g2 g5 g6 (s2.drop1.b1) (fun xv rs h3 hl hrs s3 => ?_)
    refine l4_spec z' g3 g4 g5 g6 har hl hrs (fun k hk => srow_len z g1 g5 (by omega)) s3.b5.b6.p4.p3 (fun h4 s4 => H1 he h4 s4.b2.b3.b1)
theorem j1_spec2 {kg kt k7 k11 : Nat} {w g x y w' g' : Int} {v v' : Value} {l l' : List Ce} {r : Rc} (z : szOk w g l) (z' : szOk w' g' l') (wx : -1073741824 ≤ x ∧ x ≤ 1073741824) (wy : -1073741824 ≤ y ∧ y ≤ 1073741824) (hr : r.Ok)
    (s : HW.Sep h0 (Blk k11 (r.both (allR w g)).c 23 :: Blk k7 r.c 23 :: Blk kg (grd w g v) 68 :: Sl encCe 4 v l :: Blk kt (grd w' g' v') 68 :: Sl encCe 4 v' l' :: F) h)
    (H0 : ((frR r w g x y).empty || (itR r w g x y w' g').empty) = true → ∀ h', HW.Sep h0 (Blk kg (grd w g v) 68 :: Sl encCe 4 v l :: Blk kt (grd w' g' v') 68 :: Sl encCe 4 v' l' :: F) h' → R (.int .i64 0) h')
    (H1 : ((frR r w g x y).empty || (itR r w g x y w' g').empty) = false → ∀ h', HW.Sep h0 (Blk kg (grd w g v) 68 :: Sl encCe 4 v l :: Blk kt (grd w' g' v') 68 :: Sl encCe 4 v' (putRows l' w' (itR r w g x y w' g').x (itR r w g x y w' g').y (srow l w ((itR r w g x y w' g').x - x + r.x) ((itR r w g x y w' g').y - y + r.y) (itR r w g x y w' g').w) (itR r w g x y w' g').h.toNat) :: F) h' → R (.int .i64 ((itR r w g x y w' g').w * (itR r w g x y w' g').h)) h') :
    grid_Grid_Blit_j1 R (ptr kg 0) (ptr kt 0) (.int .i64 x) (.int .i64 y) (ptr k7 0) (ptr k11 0) h := by
  unfold grid_Grid_Blit_j1
  have zz := z
  obtain ⟨z1, z2, z3, z4', z5⟩ := zz
  have rg := both_rng (a := r) (w := w) (g := g) ⟨z1, z2⟩ ⟨z3, z4'⟩
  obtain ⟨r1, r2, r3, r4⟩ := hr
  have b7 : h.has k7 r.c 23 := s.b1.has
  refine ⟨fun h' => h'.has k7 r.c 23, b7, ?_⟩
  have f0 : ∀ {K : Value → Prop}, sLd h (ptr k11 0) K = K (.int .i64 (r.both (allR w g)).x) := s.ld rfl
  have f1 : ∀ {K : Value → Prop}, sLd h (ptr k11 1) K = K (.int .i64 (r.both (allR w g)).y) := s.ld rfl
  have g0 : ∀ {K : Value → Prop}, sLd h (ptr k7 0) K = K (.int .i64 r.x) := ev_ld_has b7 rfl
  have g1 : ∀ {K : Value → Prop}, sLd h (ptr k7 1) K = K (.int .i64 r.y) := ev_ld_has b7 rfl
  have c7 : ∀ {o : Nat} {u : Value} {K : Value → Prop}, r.c[o]? = some u → sLdC (fun h' => h'.has k7 r.c 23) (ptr k7 o) K = K u := fun hv => ldc_at (C := fun h' => h'.has k7 r.c 23) (h0 := h) b7 (fun h' e => by rw [e.at, hv])
  have c1 := @c7 1 (.int .i64 r.y) 
  simp only [ev_off, Nat.zero_add, f0, f1, g0, g1, c1 rfl, ev_add, ev_sub]
  rw [wrap_i64 (x := (r.both (allR w g)).x + x) (by omega) (by omega), wrap_i64 (x := (r.both (allR w g)).x + x - r.x) (by omega) (by omega), wrap_i64 (x := (r.both (allR w g)).y + y) (by omega) (by omega), wrap_i64 (x := (r.both (allR w g)).y + y - r.y) (by omega) (by omega)]
  refine s.st (Nat.le_of_ble_eq_true rfl) trivial (fun h1 s1 => ⟨s1.b1.has, ?_⟩)
  refine s1.st (Nat.le_of_ble_eq_true rfl) trivial (fun h2 s2 => ?_)
  have s2 : HW.Sep h0 (Blk k11 (frR r w g x y).c 23 :: Blk k7 r.c 23 :: Blk kg (grd w g v) 68 :: Sl encCe 4 v l :: Blk kt (grd w' g' v') 68 :: Sl encCe 4 v' l' :: F) h2 := s2
  refine ⟨fun h' => h'.has k11 (frR r w g x y).c 23, s2.has, ?_⟩
  have cA : ∀ {K : Value → Prop}, sLdNC (fun h' => h'.has k11 (frR r w g x y).c 23) (ptr k11 0) 4 K = K (frR r w g x y).v := fun {K} => ldnc_all (C := fun h' => h'.has k11 (frR r w g x y).c 23) (h0 := h2) s2.has rfl (fun _ e => e)
  rw [cA]
  exact three (a := frR r w g x y) (fun h' e => e.has s2.has) s2 ⟨_, s2.b4⟩ (fun n h' s' => j2_spec2 z z' wx wy ⟨r1, r2, r3, r4⟩ rfl rfl s' H0 H1)
theorem blit2_spec {kg kt : Nat} {w g x y w' g' : Int} {v v' : Value} {l l' : List Ce} {r : Rc} (z : szOk w g l) (z' : szOk w' g' l')
    (s : HW.Sep h0 (Blk kg (grd w g v) 68 :: Sl encCe 4 v l :: Blk kt (grd w' g' v') 68 :: Sl encCe 4 v' l' :: F) h)
    (H0 : (!(r.right && nearB x && nearB y) || ((frR r w g x y).empty || (itR r w g x y w' g').empty)) = true → ∀ h', HW.Sep h0 (Blk kg (grd w g v) 68 :: Sl encCe 4 v l :: Blk kt (grd w' g' v') 68 :: Sl encCe 4 v' l' :: F) h' → R (.int .i64 0) h')
    (H1 : (!(r.right && nearB x && nearB y) || ((frR r w g x y).empty || (itR r w g x y w' g').empty)) = false → ∀ h', HW.Sep h0 (Blk kg (grd w g v) 68 :: Sl encCe 4 v l :: Blk kt (grd w' g' v') 68 :: Sl encCe 4 v' (putRows l' w' (itR r w g x y w' g').x (itR r w g x y w' g').y (srow l w ((itR r w g x y w' g').x - x + r.x) ((itR r w g x y w' g').y - y + r.y) (itR r w g x y w' g').w) (itR r w g x y w' g').h.toNat) :: F) h' → R (.int .i64 ((itR r w g x y w' g').w * (itR r w g x y w' g').h)) h') :
    grid_Grid_Blit_c (ptr kg 0) (ptr kt 0) r.v (.int .i64 x) (.int .i64 y) h R := by
  apply grid_Grid_Blit_runs
  unfold grid_Grid_Blit_S
  refine s.box (c := r.c) r.cells (fun k7 h1 s1 => ?_)
  have e0 : ∀ {K : Value → Prop}, sEqlNil (ptr kt 0) K = K (.bool false) := by intro K; simp only [ptr, ev_eqlNil, Option.isNone_some]
  rw [e0]
  refine or_ext (y := !r.right) (fun _ K' HK => by
    rw [s1.ldall (n := 4) rfl]
    exact rright_spec (r := r) (fun h2 e2 => by rw [ev_not]; exact HK _ e2)) (fun h2 e2 => ?_)
  refine or_ext (y := !nearB x) (fun _ K' HK => gnear_spec (by rw [ev_not]; exact HK _ (Ext.refl _))) (fun h3 e3 => ?_)
  refine or_ext (y := !nearB y) (fun _ K' HK => gnear_spec (by rw [ev_not]; exact HK _ (Ext.refl _))) (fun h4 e4 => ?_)
  have s4 := ((s1.ext' e2).ext' e3).ext' e4
  rw [ev_if]
  have ec : (false || !r.right || !nearB x || !nearB y) = !(r.right && nearB x && nearB y) := by cases r.right <;> cases nearB x <;> cases nearB y <;> rfl
  rw [ec]
  cases hc : (r.right && nearB x && nearB y) with
  | false =>
    rw [if_pos (by decide)]
    exact H0 (by rw [hc]; rfl) h4 s4.tail
  | true =>
    rw [if_neg (by decide)]
    rw [hc] at H0 H1
    simp only [Bool.not_true, Bool.false_or] at H0 H1
    simp only [Bool.and_eq_true] at hc
    obtain ⟨⟨c1, c2⟩, c3⟩ := hc
    have wx : -1073741824 ≤ x ∧ x ≤ 1073741824 := by simpa [nearB] using c2
    have wy : -1073741824 ≤ y ∧ y ≤ 1073741824 := by simpa [nearB] using c3
    refine ⟨fun h' => h'.has k7 r.c 23, s4.has, ?_⟩
    have cA : ∀ {K : Value → Prop}, sLdNC (fun h' => h'.has k7 r.c 23) (ptr k7 0) 4 K = K r.v := fun {K} => ldnc_all (C := fun h' => h'.has k7 r.c 23) (h0 := h4) s4.has rfl (fun _ e => e)
    rw [cA]
    exact three (a := r) (fun h' e => e.has s4.has) s4 ⟨_, s4.b1⟩ (fun n h' s' => j1_spec2 z z' wx wy ((Rc.right_iff r).1 c1) s' H0 H1)
end
end Go.Proofs.Ythhpieidlpjbmaa
