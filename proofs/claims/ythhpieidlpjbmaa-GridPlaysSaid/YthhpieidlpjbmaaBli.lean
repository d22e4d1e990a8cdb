/- Grids: cells copied to another place. -/
import Derived.Test.YthhpieidlpjbmaaRec
import Derived.Test.YthhpieidlpjbmaaHwB
import Derived.Test.YthhpieidlpjbmaaFgridGridBlit
import Derived.Test.YthhpieidlpjbmaaFgridGridCopy
set_option linter.unusedSimpArgs false
set_option linter.unusedVariables false
namespace Go.Proofs.Ythhpieidlpjbmaa
open Go Go.HW

abbrev CV := {v : Value // Cell1 v}
def encCV (c : CV) : List Value := [c.1]
theorem encCV_len (c : CV) : (encCV c).length = 1 := rfl
theorem encCV_cell (c : CV) : ∀ u ∈ encCV c, Cell1 u := by intro u hu; simp [encCV] at hu; subst hu; exact c.2
/-- Rows by themselves. -/
def rowsP (rs : List (CV × List Ce)) : HP := HP.all (rs.map fun p => Sl encCe 4 p.1.1 p.2)
def allR (w g : Int) : Rc := ⟨0, 0, w, g⟩
theorem allR_v (w g : Int) : (allR w g).v = .agg (allC w g) := rfl
/-- Where it comes from, moved; and what of it is there. -/
def frR (r : Rc) (w g x y : Int) : Rc := ⟨(r.both (allR w g)).x + x - r.x, (r.both (allR w g)).y + y - r.y, (r.both (allR w g)).w, (r.both (allR w g)).h⟩
def itR (r : Rc) (w g x y w' g' : Int) : Rc := (frR r w g x y).both (allR w' g')
theorem mx_le (a b : Int) : a ≤ mx a b ∧ b ≤ mx a b := by unfold mx; split <;> omega
theorem mn_le (a b : Int) : mn a b ≤ a ∧ mn a b ≤ b := by unfold mn; split <;> omega
theorem both_in {a : Rc} {w g : Int} (he : (a.both (allR w g)).empty = false) : (1 ≤ (a.both (allR w g)).w ∧ 1 ≤ (a.both (allR w g)).h) ∧ (0 ≤ (a.both (allR w g)).x ∧ (a.both (allR w g)).x + (a.both (allR w g)).w ≤ w) ∧ (0 ≤ (a.both (allR w g)).y ∧ (a.both (allR w g)).y + (a.both (allR w g)).h ≤ g) ∧ (a.x ≤ (a.both (allR w g)).x ∧ (a.both (allR w g)).x + (a.both (allR w g)).w ≤ a.x + a.w) ∧ (a.y ≤ (a.both (allR w g)).y ∧ (a.both (allR w g)).y + (a.both (allR w g)).h ≤ a.y + a.h) := by
  unfold Rc.empty at he
  simp only [Bool.or_eq_false_iff, decide_eq_false_iff_not] at he
  generalize hq : a.both (allR w g) = q at he ⊢
  unfold Rc.both at hq
  split at hq
  · unfold rof at hq
    split at hq
    · rw [← hq] at he; simp at he
    · have m1 := mx_le a.x (allR w g).x
      have m2 := mx_le a.y (allR w g).y
      have m3 := mn_le (a.x + a.w) ((allR w g).x + (allR w g).w)
      have m4 := mn_le (a.y + a.h) ((allR w g).y + (allR w g).h)
      have z1 : (allR w g).x = 0 := rfl
      have z2 : (allR w g).y = 0 := rfl
      have z3 : (allR w g).w = w := rfl
      have z4 : (allR w g).h = g := rfl
      rw [← hq] at he ⊢
      simp only at he ⊢
      omega
  · rw [← hq] at he; simp at he
theorem geo {r : Rc} {w g x y w' g' : Int} (he : (itR r w g x y w' g').empty = false) :
    (0 ≤ (itR r w g x y w' g').x - x + r.x ∧ (itR r w g x y w' g').x - x + r.x + (itR r w g x y w' g').w ≤ w) ∧ (0 ≤ (itR r w g x y w' g').y - y + r.y ∧ (itR r w g x y w' g').y - y + r.y + (itR r w g x y w' g').h ≤ g) ∧ (0 ≤ (itR r w g x y w' g').x ∧ (itR r w g x y w' g').x + (itR r w g x y w' g').w ≤ w') ∧ (0 ≤ (itR r w g x y w' g').y ∧ (itR r w g x y w' g').y + (itR r w g x y w' g').h ≤ g') ∧ 1 ≤ (itR r w g x y w' g').w ∧ 1 ≤ (itR r w g x y w' g').h := by
  unfold itR at *
  obtain ⟨h1, h2, h3, h4, h5⟩ := both_in he
  have f1 : (frR r w g x y).x = (r.both (allR w g)).x + x - r.x := rfl
  have f2 : (frR r w g x y).y = (r.both (allR w g)).y + y - r.y := rfl
  have f3 : (frR r w g x y).w = (r.both (allR w g)).w := rfl
  have f4 : (frR r w g x y).h = (r.both (allR w g)).h := rfl
  have he0 : (r.both (allR w g)).empty = false := by
    unfold Rc.empty
    simp only [Bool.or_eq_false_iff, decide_eq_false_iff_not]
    omega
  obtain ⟨k1, k2, k3, k4, k5⟩ := both_in he0
  omega
/-- Row k of what is copied. -/
def srow (l : List Ce) (w x0 y0 n : Int) (k : Nat) : List Ce := (((l.take ((y0 + k + 1) * w).toNat).drop ((y0 + k) * w).toNat).take (x0 + n).toNat).drop x0.toNat
def putRows (l' : List Ce) (w' x1 y1 : Int) (rows : Nat → List Ce) : Nat → List Ce
  | 0 => l'
  | k + 1 => setAll (putRows l' w' x1 y1 rows k) ((y1 + k) * w' + x1).toNat (rows k)
theorem putRows_len (l' : List Ce) (w' x1 y1 : Int) (rows : Nat → List Ce) : ∀ k, (putRows l' w' x1 y1 rows k).length = l'.length
  | 0 => rfl
  | k + 1 => by rw [putRows, setAll_len, putRows_len l' w' x1 y1 rows k]

section
variable {h0 h : Heap} {F : List HP} {R : Value → Heap → Prop}
theorem srow_len {l : List Ce} {w g x0 y0 n : Int} {k : Nat} (z : szOk w g l) (hx : 0 ≤ x0 ∧ x0 + n ≤ w) (hn : 1 ≤ n) (hy : 0 ≤ y0 + k ∧ y0 + k < g) : (srow l w x0 y0 n k).length = n.toNat := by
  obtain ⟨z1, z2, z3, z4, z5⟩ := z
  have m := sz_mul ⟨z1, z2⟩ z4 hy
  rw [Int.mul_comm w g] at z5
  unfold srow
  simp only [List.length_drop, List.length_take]
  omega
/-- The rows are read. -/
theorem l3_spec {kg k7 k12 : Nat} {w g x y : Int} {v : Value} {l : List Ce} {r it : Rc} {x1 : Value} (z : szOk w g l) (wx : -1073741824 ≤ x ∧ x ≤ 1073741824) (wy : -1073741824 ≤ y ∧ y ≤ 1073741824) (hr : r.Ok) (hit : (0 ≤ it.x ∧ it.x ≤ 512) ∧ (0 ≤ it.y ∧ it.y ≤ 512))
    (hx : 0 ≤ it.x - x + r.x ∧ it.x - x + r.x + it.w ≤ w) (hy : 0 ≤ it.y - y + r.y ∧ it.y - y + r.y + it.h ≤ g) (hw : 1 ≤ it.w) (hh : 1 ≤ it.h)
    (s : HW.Sep h0 (Blk k7 r.c 23 :: Blk k12 it.c 23 :: Blk kg (grd w g v) 68 :: Sl encCe 4 v l :: F) h)
    (H : ∀ (xv : Value) (rs : List (CV × List Ce)) h', (rs.length : Int) = it.h → (∀ i p, rs[i]? = some p → p.2 = srow l w (it.x - x + r.x) (it.y - y + r.y) it.w i) → HW.Sep h0 (rowsP rs :: Sl encCV 1 xv (rs.map (·.1)) :: Blk k12 it.c 23 :: Blk kg (grd w g v) 68 :: Sl encCe 4 v l :: F) h' →
      (sLen xv fun x100 => sLoop (S := Value) (fun nxt s h => grid_Grid_Blit_l4 R x1 (ptr k12 0) xv x100 (fun x101' h => nxt x101' h) s h) (.int .i64 0) h')) :
    sLoop (S := Value × Value) (fun nxt s h => grid_Grid_Blit_l3 R (ptr kg 0) x1 (.int .i64 x) (.int .i64 y) (ptr k7 0) (ptr k12 0) (.int .i64 it.h) (fun x13' x67' h => nxt (x13', x67') h) s.1 s.2 h) ((.slice none 0 0), (.int .i64 0)) h := by
  have zz := z
  obtain ⟨z1, z2, z3, z4, z5⟩ := zz
  refine ⟨fun t h' => ∃ (k : Nat) (xv : Value) (rs : List (CV × List Ce)), (k : Int) ≤ it.h ∧ t = (xv, .int .i64 k) ∧ rs.length = k ∧ (∀ i p, rs[i]? = some p → p.2 = srow l w (it.x - x + r.x) (it.y - y + r.y) it.w i) ∧ HW.Sep h0 (rowsP rs :: Sl encCV 1 xv (rs.map (·.1)) :: Blk k7 r.c 23 :: Blk k12 it.c 23 :: Blk kg (grd w g v) 68 :: Sl encCe 4 v l :: F) h', fun t _ => match t with | (_, .int _ k) => (it.h - k).toNat | _ => 0, ⟨0, _, [], by omega, rfl, rfl, by simp, (sep_nil s).shut_all (L := [])⟩, ?_⟩
  rintro _ h1 ⟨k, xv, rs, hk, rfl, hlen, hrs, s1⟩
  simp only []
  unfold grid_Grid_Blit_l3
  rw [ev_lt, ev_if]
  by_cases hlt : (k : Int) < it.h
  · rw [if_pos (decide_eq_true hlt)]
    have b7 : h1.has k7 r.c 23 := s1.b2.has
    have b12 : h1.has k12 it.c 23 := s1.b3.has
    have f0 : ∀ {K : Value → Prop}, sLd h1 (ptr k12 0) K = K (.int .i64 it.x) := ev_ld_has b12 rfl
    have g0 : ∀ {K : Value → Prop}, sLd h1 (ptr k7 0) K = K (.int .i64 r.x) := ev_ld_has b7 rfl
    obtain ⟨r1, r2, r3, r4⟩ := hr
    simp only [ev_off, Nat.zero_add, f0, g0, ev_sub, ev_add]
    rw [wrap_i64 (x := it.x - x) (by omega) (by omega), wrap_i64 (by omega) (by omega)]
    refine ⟨fun h' => h'.has k7 r.c 23 ∧ h'.has k12 it.c 23, ⟨b7, b12⟩, ?_⟩
    have c7 : ∀ {o : Nat} {u : Value} {K : Value → Prop}, r.c[o]? = some u → sLdC (fun h' => h'.has k7 r.c 23 ∧ h'.has k12 it.c 23) (ptr k7 o) K = K u := fun hv => ldc_at (C := fun h' => h'.has k7 r.c 23 ∧ h'.has k12 it.c 23) (h0 := h1) ⟨b7, b12⟩ (fun h' e => by rw [e.1.at, hv])
    have c12 : ∀ {o : Nat} {u : Value} {K : Value → Prop}, it.c[o]? = some u → sLdC (fun h' => h'.has k7 r.c 23 ∧ h'.has k12 it.c 23) (ptr k12 o) K = K u := fun hv => ldc_at (C := fun h' => h'.has k7 r.c 23 ∧ h'.has k12 it.c 23) (h0 := h1) ⟨b7, b12⟩ (fun h' e => by rw [e.2.at, hv])
    have f1 : ∀ {K : Value → Prop}, sLd h1 (ptr k12 1) K = K (.int .i64 it.y) := ev_ld_has b12 rfl
    have g1 : ∀ {K : Value → Prop}, sLd h1 (ptr k7 1) K = K (.int .i64 r.y) := ev_ld_has b7 rfl
    rw [f1, ev_sub, wrap_i64 (x := it.y - y) (by omega) (by omega), g1, ev_add, wrap_i64 (x := it.y - y + r.y) (by omega) (by omega), ev_add, wrap_i64 (x := it.y - y + r.y + k) (by omega) (by omega)]
    have hyk : 0 ≤ it.y - y + r.y + k ∧ it.y - y + r.y + k < g := by omega
    have s1g : HW.Sep h0 (Blk kg (grd w g v) 68 :: Sl encCe 4 v l :: rowsP rs :: Sl encCV 1 xv (rs.map (·.1)) :: Blk k7 r.c 23 :: Blk k12 it.c 23 :: F) h1 := s1.b5.b5
    refine row_spec s1g z hyk ⟨⟨b7, b12⟩, ?_⟩
    rw [c12 (o := 2) (u := .int .i64 it.w) rfl, ev_add, wrap_i64 (by omega) (by omega)]
    have m := sz_mul ⟨z1, z2⟩ z4 hyk
    rw [Int.mul_comm w g] at z5
    have rd : HW.Rd encCe 4 h0 (Blk kg (grd w g v) 68 :: Sl encCe 4 v l :: rowsP rs :: Sl encCV 1 xv (rs.map (·.1)) :: Blk k7 r.c 23 :: Blk k12 it.c 23 :: F) v l := Rd.own1
    have rd1 := rd.cut (i := ((it.y - y + r.y + k) * w).toNat) (j := ((it.y - y + r.y + k + 1) * w).toNat) (by omega) (by omega)
    have q1 := rd1.at0 s1g
    have l1 : ((l.take ((it.y - y + r.y + k + 1) * w).toNat).drop ((it.y - y + r.y + k) * w).toNat).length = w.toNat := by simp only [List.length_drop, List.length_take]; omega
    obtain ⟨a, ha⟩ : ∃ a : Nat, it.x - x + r.x = a := ⟨(it.x - x + r.x).toNat, by omega⟩
    obtain ⟨b, hb⟩ : ∃ b : Nat, it.x - x + r.x + it.w = b := ⟨(it.x - x + r.x + it.w).toNat, by omega⟩
    rw [hb, ha]
    refine q1.slK (i := a) (j := b) (by omega) (by rw [l1]; omega) ⟨.i64, rfl⟩ ⟨.i64, rfl⟩ ?_
    have rd2 := rd1.cut (i := a) (j := b) (by omega) (by rw [l1]; omega)
    have hsr : srow l w (it.x - x + r.x) (it.y - y + r.y) it.w k = (((l.take ((it.y - y + r.y + k + 1) * w).toNat).drop ((it.y - y + r.y + k) * w).toNat).take b).drop a := by unfold srow; rw [hb, ha, Int.toNat_natCast, Int.toNat_natCast]
    rw [← hsr] at rd2
    have l2 := srow_len (k := k) z hx hw (by omega)
    refine clone_cells rd2 s1g (by rw [l2]; omega) (by rw [l2]; omega) (fun v' h2 c2 s2 => ?_)
    obtain ⟨va, vn, vm, rfl, _⟩ := s2.seq
    refine s2.slit (enc := encCV) (sz := 1) encCV_len [⟨.slice va vn vm, c2⟩] rfl ⟨rfl, Nat.le_of_ble_eq_true rfl, rfl⟩ (fun lv h3 _ s3 => ?_)
    have s3' : HW.Sep h0 (Sl encCV 1 xv (rs.map (·.1)) :: Sl encCV 1 lv [⟨.slice va vn vm, c2⟩] :: Sl encCe 4 (.slice va vn vm) (srow l w (it.x - x + r.x) (it.y - y + r.y) it.w k) :: Blk kg (grd w g v) 68 :: Sl encCe 4 v l :: rowsP rs :: Blk k7 r.c 23 :: Blk k12 it.c 23 :: F) h3 := s3.b5
    refine s3'.app (enc := encCV) (sz := 1) rfl (by decide) encCV_len encCV_cell s3.seq (by simp only [List.length_map, List.length_cons, List.length_nil]; omega) (by decide) (fun xv' h4 _ s4 => ?_)
    rw [wrap_i64 (x := (k : Int) + 1) (by omega) (by omega)]
    refine ⟨⟨k + 1, xv', rs ++ [(⟨.slice va vn vm, c2⟩, srow l w (it.x - x + r.x) (it.y - y + r.y) it.w k)], by omega, by rw [Int.natCast_add]; rfl, by simp [hlen], ?_, ?_⟩, by omega⟩
    · intro i p hp
      rw [← ha]
      by_cases hi : i < rs.length
      · rw [List.getElem?_append_left hi] at hp; exact hrs i p hp
      · rw [List.getElem?_append_right (by omega)] at hp
        have : i = k := by
          have := (List.getElem?_eq_some_iff.1 hp).1
          simp at this; omega
        subst this
        rw [hlen, Nat.sub_self] at hp
        cases hp; rfl
    · have s5 := s4.drop1
      -- xv', row, kg, v, rows, k7, k12, F
      have s6 : HW.Sep h0 (rowsP rs :: Sl encCe 4 (.slice va vn vm) (srow l w (it.x - x + r.x) (it.y - y + r.y) it.w k) :: Sl encCV 1 xv' (rs.map (·.1) ++ [⟨.slice va vn vm, c2⟩]) :: Blk k7 r.c 23 :: Blk k12 it.c 23 :: Blk kg (grd w g v) 68 :: Sl encCe 4 v l :: F) h4 := by
        exact s5.b3.b3.b6.b6.b4.b5.b6
      have s7 := HW.Sep.push s6
      rw [rowsP, List.map_append, List.map_append]
      exact s7
  · rw [if_neg (by simpa using hlt)]
    exact H xv rs h1 (by omega) hrs (s1.b2.tail)
theorem cutP_cutP {v : Value} {l : List Ce} {a b X : Nat} (q : Seq encCe 4 h v l) (h1 : a + X < b) (h2 : b ≤ l.length) : HW.cutP (HW.cutP v a b 4) X (b - a) 4 = HW.cutP v (a + X) b 4 := by
  obtain ⟨va, n, m, rfl, hn, hm, h3 | ⟨bb, o, rfl, hb, hc⟩⟩ := q
  · omega
  · simp only [HW.cutP, cutV]
    rw [if_neg (show ¬ m = a by omega), if_neg (show ¬ m - a = X by omega), if_neg (show ¬ m = a + X by omega)]
    simp only [Option.map_some, Addr.add]
    have e1 : b - a - X = b - (a + X) := by omega
    have e2 : m - a - X = m - (a + X) := by omega
    rw [e1, e2]
    congr 2
    by_cases ha : a * 4 = 0
    · have : a = 0 := by omega
      subst this
      simp
    · rw [if_neg ha]
      by_cases hX : X * 4 = 0
      · have : X = 0 := by omega
        subst this
        rw [if_pos (by omega), if_neg (by omega)]; rfl
      · rw [if_neg hX, if_neg (by omega)]
        simp only [Addr.mk.injEq, and_true, true_and]
        omega
theorem rows_seq {rs : List (CV × List Ce)} {k : Nat} {p : CV × List Ce} (s : HW.Sep h0 (rowsP rs :: F) h) (hp : rs[k]? = some p) : Seq encCe 4 h p.1.1 p.2 := by
  obtain ⟨A, B, e⟩ := List.append_of_mem (List.mem_of_getElem? hp)
  have s2 := s.open_all
  rw [e, List.map_append, List.map_cons, List.append_assoc, List.cons_append] at s2
  exact (s2.perm List.perm_middle).seq
/-- The rows are put. -/
theorem l4_spec {kt k12 : Nat} {w' g' x0 y0 : Int} {v' xv : Value} {l l' : List Ce} {w : Int} {it : Rc} {rs : List (CV × List Ce)} (z' : szOk w' g' l')
    (hx : 0 ≤ it.x ∧ it.x + it.w ≤ w') (hy : 0 ≤ it.y ∧ it.y + it.h ≤ g') (hw : 1 ≤ it.w) (hh : 1 ≤ it.h) (har : it.area = it.w * it.h)
    (hlen : (rs.length : Int) = it.h) (hrs : ∀ i p, rs[i]? = some p → p.2 = srow l w x0 y0 it.w i) (hsl : ∀ k, k < rs.length → (srow l w x0 y0 it.w k).length = it.w.toNat)
    (s : HW.Sep h0 (rowsP rs :: Sl encCV 1 xv (rs.map (·.1)) :: Blk k12 it.c 23 :: Blk kt (grd w' g' v') 68 :: Sl encCe 4 v' l' :: F) h)
    (H : ∀ h', HW.Sep h0 (Blk kt (grd w' g' v') 68 :: Sl encCe 4 v' (putRows l' w' it.x it.y (srow l w x0 y0 it.w) it.h.toNat) :: F) h' → R (.int .i64 (it.w * it.h)) h') :
    (sLen xv fun x100 => sLoop (S := Value) (fun nxt s h => grid_Grid_Blit_l4 R (ptr kt 0) (ptr k12 0) xv x100 (fun x101' h => nxt x101' h) s h) (.int .i64 0) h) := by
  have zz := z'
  obtain ⟨z1, z2, z3, z4, z5⟩ := zz
  rw [s.b1.seq.len, List.length_map]
  refine ⟨fun t h' => ∃ (k : Nat), k ≤ rs.length ∧ t = .int .i64 k ∧ HW.Sep h0 (rowsP rs :: Sl encCV 1 xv (rs.map (·.1)) :: Blk k12 it.c 23 :: Blk kt (grd w' g' v') 68 :: Sl encCe 4 v' (putRows l' w' it.x it.y (srow l w x0 y0 it.w) k) :: F) h', fun t _ => match t with | .int _ k => (rs.length - k).toNat | _ => 0, ⟨0, Nat.zero_le _, rfl, s⟩, ?_⟩
  rintro _ h1 ⟨k, hk, rfl, s1⟩
  simp only []
  unfold grid_Grid_Blit_l4
  rw [ev_lt, ev_if]
  by_cases hlt : k < rs.length
  · rw [if_pos (by simpa using hlt)]
    obtain ⟨p, hp⟩ : ∃ p, rs[k]? = some p := ⟨rs[k], List.getElem?_eq_getElem hlt⟩
    have hp1 : (rs.map (·.1))[k]? = some p.1 := by rw [List.getElem?_map, hp]; rfl
    rw [s1.b1.seq.ld hp1 rfl]
    have b12 : h1.has k12 it.c 23 := s1.b2.has
    refine ⟨fun h' => h'.has k12 it.c 23, b12, ?_⟩
    have c12 : ∀ {o : Nat} {u : Value} {K : Value → Prop}, it.c[o]? = some u → sLdC (fun h' => h'.has k12 it.c 23) (ptr k12 o) K = K u := fun hv => ldc_at (C := fun h' => h'.has k12 it.c 23) (h0 := h1) b12 (fun h' e => by rw [e.at, hv])
    have f1 : ∀ {K : Value → Prop}, sLd h1 (ptr k12 1) K = K (.int .i64 it.y) := ev_ld_has b12 rfl
    rw [ev_off, Nat.zero_add, f1, ev_add, wrap_i64 (by omega) (by omega)]
    have hyk : 0 ≤ it.y + k ∧ it.y + k < g' := by omega
    have zk : szOk w' g' (putRows l' w' it.x it.y (srow l w x0 y0 it.w) k) := by unfold szOk; rw [putRows_len]; exact z'
    have s1g : HW.Sep h0 (Blk kt (grd w' g' v') 68 :: Sl encCe 4 v' (putRows l' w' it.x it.y (srow l w x0 y0 it.w) k) :: rowsP rs :: Sl encCV 1 xv (rs.map (·.1)) :: Blk k12 it.c 23 :: F) h1 := s1.b4.b4
    refine row_spec s1g zk hyk ⟨b12, ?_⟩
    rw [ev_off, c12 (u := .int .i64 it.x) rfl]
    have m := sz_mul ⟨z1, z2⟩ z4 hyk
    rw [Int.mul_comm w' g'] at z5
    obtain ⟨a, ha⟩ : ∃ a : Nat, (it.y + k) * w' = a := ⟨((it.y + k) * w').toNat, by omega⟩
    obtain ⟨b, hb⟩ : ∃ b : Nat, (it.y + k + 1) * w' = b := ⟨((it.y + k + 1) * w').toNat, by omega⟩
    obtain ⟨X, hX⟩ : ∃ X : Nat, it.x = X := ⟨it.x.toNat, by omega⟩
    rw [ha, hb, hX, Int.toNat_natCast, Int.toNat_natCast]
    have hlk : (putRows l' w' it.x it.y (srow l w x0 y0 it.w) k).length = l'.length := putRows_len _ _ _ _ _ _
    rw [hX] at hlk s1g
    have qv := s1g.b1.seq
    have qc := qv.cutP (i := a) (j := b) (by omega) (by omega)
    refine qc.slK (i := X) (j := b - a) (by omega) (by simp only [List.length_drop, List.length_take]; omega) ⟨.i64, rfl⟩ (by show bnd none _ (b - a); simp only [bnd, List.length_drop, List.length_take]; omega) ?_
    rw [cutP_cutP qv (by omega) (by omega)]
    have hpl : p.2.length = it.w.toNat := by rw [hrs k p hp]; exact hsl k hlt
    have qs := rows_seq s1 hp
    refine s1g.b1.copy encCe_len encCe_cell qs (by omega) (i := a + X) (j := b) (by omega) (by omega) (fun h2 s2 => ?_)
    rw [ev_add, wrap_i64 (by omega) (by omega)]
    refine ⟨⟨k + 1, hlt, by rw [Int.natCast_add]; rfl, ?_⟩, by simp only; omega⟩
    have e : putRows l' w' (X : Int) it.y (srow l w x0 y0 it.w) (k + 1) = setAll (putRows l' w' (X : Int) it.y (srow l w x0 y0 it.w) k) (a + X) p.2 := by
      rw [putRows, ha, hrs k p hp]
      congr 1
    rw [e]
    exact s2.b1.b4.b4.b4
  · have : k = rs.length := by omega
    subst this
    rw [if_neg (by simp)]
    rw [s1.b2.ldall (n := 4) rfl]
    refine rarea_spec (r := it) (fun h2 e2 => ?_)
    rw [har]
    refine H h2 ?_
    have s2 := (s1.ext' e2).tail2.tail
    have e : rs.length = it.h.toNat := by omega
    rw [e] at s2
    exact s2
/-- A copy within one grid. -/
theorem j2_spec {kg k7 k11 k12 : Nat} {w g x y : Int} {v : Value} {l : List Ce} {r fr it : Rc} (z : szOk w g l) (wx : -1073741824 ≤ x ∧ x ≤ 1073741824) (wy : -1073741824 ≤ y ∧ y ≤ 1073741824) (hr : r.Ok) (hfr : fr = frR r w g x y) (hit : it = itR r w g x y w g)
    (s : HW.Sep h0 (Blk k12 it.c 23 :: Blk k11 fr.c 23 :: Blk k7 r.c 23 :: Blk kg (grd w g v) 68 :: Sl encCe 4 v l :: F) h)
    (H0 : (fr.empty || it.empty) = true → ∀ h', HW.Sep h0 (Blk kg (grd w g v) 68 :: Sl encCe 4 v l :: F) h' → R (.int .i64 0) h')
    (H1 : (fr.empty || it.empty) = false → ∀ h', HW.Sep h0 (Blk kg (grd w g v) 68 :: Sl encCe 4 v (putRows l w it.x it.y (srow l w (it.x - x + r.x) (it.y - y + r.y) it.w) it.h.toNat) :: F) h' → R (.int .i64 (it.w * it.h)) h') :
    grid_Grid_Blit_j2 R (ptr kg 0) (ptr kg 0) (.int .i64 x) (.int .i64 y) (ptr k7 0) (ptr k11 0) (ptr k12 0) h := by
  unfold grid_Grid_Blit_j2
  rw [s.b1.ldall (n := 4) rfl]
  refine rempty_spec (r := fr) (fun h1 e1 => ?_)
  have s1 := s.ext' e1
  refine or_ext (y := it.empty) (fun _ K' HK => by
    rw [s1.ldall (n := 4) rfl]
    exact rempty_spec (r := it) (fun h2 e2 => HK _ e2)) (fun h2 e2 => ?_)
  have s2 := s1.ext' e2
  rw [ev_if]
  cases he : (fr.empty || it.empty) with
  | true => rw [if_pos rfl]; exact H0 he h2 (s2.tail2.tail)
  | false =>
    rw [if_neg (by decide)]
    have hie : it.empty = false := (Bool.or_eq_false_iff.1 he).2
    rw [hit] at hie
    obtain ⟨g1, g2, g3, g4, g5, g6⟩ := geo hie
    rw [← hit] at g1 g2 g3 g4 g5 g6
    have zz := z
    obtain ⟨z1, z2, z3, z4, z5⟩ := zz
    have f3 : ∀ {K : Value → Prop}, sLd h2 (ptr k12 3) K = K (.int .i64 it.h) := s2.ld rfl
    rw [ev_off, Nat.zero_add, f3]
    have har : it.area = it.w * it.h := by
      unfold Rc.area
      have : it.right = true := (Rc.right_iff it).2 (by unfold Rc.Ok; omega)
      rw [this]
      have : it.empty = false := by rw [hit]; exact hie
      rw [this]; rfl
    refine l3_spec (x1 := ptr kg 0) z wx wy hr ⟨by omega, by omega⟩ g1 g2 g5 g6 (s2.drop1.b1) (fun xv rs h3 hl hrs s3 => ?_)
    refine l4_spec z g3 g4 g5 g6 har hl hrs (fun k hk => srow_len z g1 g5 (by omega)) s3 (fun h4 s4 => H1 he h4 s4)
theorem both_rng {a : Rc} {w g : Int} (hw : 1 ≤ w ∧ w ≤ 512) (hg : 1 ≤ g ∧ g ≤ 512) : (0 ≤ (a.both (allR w g)).x ∧ (a.both (allR w g)).x ≤ 512) ∧ (0 ≤ (a.both (allR w g)).y ∧ (a.both (allR w g)).y ≤ 512) := by
  cases he : (a.both (allR w g)).empty with
  | false =>
    obtain ⟨h1, h2, h3, _, _⟩ := both_in he
    omega
  | true =>
    unfold Rc.empty at he
    simp only [Bool.or_eq_true, decide_eq_true_eq] at he
    generalize hq : a.both (allR w g) = q at he ⊢
    unfold Rc.both at hq
    split at hq
    · unfold rof at hq
      split at hq
      · rw [← hq]; simp
      · rw [← hq] at he; simp only at he; omega
    · rw [← hq]; simp
abbrev z4 : Array Value := #[.int .i64 0, .int .i64 0, .int .i64 0, .int .i64 0]
theorem three {C : Heap → Prop} {a : Rc} {kg : Nat} {w g : Int} {v : Value} {J : Value → Heap → Prop} {F : List HP} (hC : ∀ h', Ext h h' → C h') (s : HW.Sep h0 F h) (sg : ∃ G, HW.Sep h0 (Blk kg (grd w g v) 68 :: G) h)
    (HJ : ∀ n h', HW.Sep h0 (Blk n (a.both (allR w g)).c 23 :: F) h' → J (ptr n 0) h') :
    (grid_Grid_all_c (ptr kg 0) h (fun x37 h_31 => C h_31 ∧ ((rect_Both_c a.v x37 h_31 fun x38 h_32 => sNew h_32 z4 23 fun n h_33 => C h_33 ∧ (sStN h_33 n x38 4 fun h_34 => J n h_34)) ∧ (sNew h_31 z4 23 fun n h_35 => C h_35 ∧ (rect_Both_c a.v x37 h_35 fun x38 h_36 => sStN h_36 n x38 4 fun h_37 => J n h_37))))) ∧
    (sNew h z4 23 fun n h_38 => C h_38 ∧ (grid_Grid_all_c (ptr kg 0) h_38 fun x37 h_39 => C h_39 ∧ (rect_Both_c a.v x37 h_39 fun x38 h_40 => sStN h_40 n x38 4 fun h_41 => J n h_41))) := by
  obtain ⟨G, sg⟩ := sg
  refine ⟨?_, ?_⟩
  · refine all_spec sg (fun h1 e1 => ⟨hC _ e1, ?_, ?_⟩)
    · refine rboth_spec (a := a) (b := allR w g) (fun h2 e2 => ?_)
      refine (HW.Sep.start h2).new (fun n h3 s3 => ⟨hC _ ((e1.trans e2).trans s3.ext), ?_⟩)
      have s4 := (s.ext' (e1.trans e2)).add s3
      exact HW.Sep.stall s4 (cs := (a.both (allR w g)).c) rfl rfl (Rc.cell1 _) (fun h4 s5 => HJ n h4 s5)
    · refine (HW.Sep.start h1).new (fun n h3 s3 => ⟨hC _ (e1.trans s3.ext), ?_⟩)
      refine rboth_spec (a := a) (b := allR w g) (fun h2 e2 => ?_)
      have s4 := ((s.ext' e1).add s3).ext' e2
      exact HW.Sep.stall s4 (cs := (a.both (allR w g)).c) rfl rfl (Rc.cell1 _) (fun h4 s5 => HJ n h4 s5)
  · refine (HW.Sep.start h).new (fun n h3 s3 => ⟨hC _ s3.ext, ?_⟩)
    refine all_spec (sg.ext' s3.ext) (fun h1 e1 => ⟨hC _ (s3.ext.trans e1), ?_⟩)
    refine rboth_spec (a := a) (b := allR w g) (fun h2 e2 => ?_)
    have s4 := ((s.add s3).ext' e1).ext' e2
    exact HW.Sep.stall s4 (cs := (a.both (allR w g)).c) rfl rfl (Rc.cell1 _) (fun h4 s5 => HJ n h4 s5)
theorem j1_spec {kg k7 k11 : Nat} {w g x y : Int} {v : Value} {l : List Ce} {r : Rc} (z : szOk w g l) (wx : -1073741824 ≤ x ∧ x ≤ 1073741824) (wy : -1073741824 ≤ y ∧ y ≤ 1073741824) (hr : r.Ok)
    (s : HW.Sep h0 (Blk k11 (r.both (allR w g)).c 23 :: Blk k7 r.c 23 :: Blk kg (grd w g v) 68 :: Sl encCe 4 v l :: F) h)
    (H0 : ((frR r w g x y).empty || (itR r w g x y w g).empty) = true → ∀ h', HW.Sep h0 (Blk kg (grd w g v) 68 :: Sl encCe 4 v l :: F) h' → R (.int .i64 0) h')
    (H1 : ((frR r w g x y).empty || (itR r w g x y w g).empty) = false → ∀ h', HW.Sep h0 (Blk kg (grd w g v) 68 :: Sl encCe 4 v (putRows l w (itR r w g x y w g).x (itR r w g x y w g).y (srow l w ((itR r w g x y w g).x - x + r.x) ((itR r w g x y w g).y - y + r.y) (itR r w g x y w g).w) (itR r w g x y w g).h.toNat) :: F) h' → R (.int .i64 ((itR r w g x y w g).w * (itR r w g x y w g).h)) h') :
    grid_Grid_Blit_j1 R (ptr kg 0) (ptr kg 0) (.int .i64 x) (.int .i64 y) (ptr k7 0) (ptr k11 0) h := by
  unfold grid_Grid_Blit_j1
  have zz := z
  obtain ⟨z1, z2, z3, z4', z5⟩ := zz
  have rg := both_rng (a := r) (w := w) (g := g) ⟨z1, z2⟩ ⟨z3, z4'⟩
  obtain ⟨r1, r2, r3, r4⟩ := hr
  have b7 : h.has k7 r.c 23 := s.b1.has
  refine ⟨fun h' => h'.has k7 r.c 23, b7, ?_⟩
  have f0 : ∀ {K : Value → Prop}, sLd h (ptr k11 0) K = K (.int .i64 (r.both (allR w g)).x) := s.ld rfl
  have f1 : ∀ {K : Value → Prop}, sLd h (ptr k11 1) K = K (.int .i64 (r.both (allR w g)).y) := s.ld rfl
  have g0 : ∀ {K : Value → Prop}, sLd h (ptr k7 0) K = K (.int .i64 r.x) := ev_ld_has b7 rfl
  have g1 : ∀ {K : Value → Prop}, sLd h (ptr k7 1) K = K (.int .i64 r.y) := ev_ld_has b7 rfl
  have c7 : ∀ {o : Nat} {u : Value} {K : Value → Prop}, r.c[o]? = some u → sLdC (fun h' => h'.has k7 r.c 23) (ptr k7 o) K = K u := fun hv => ldc_at (C := fun h' => h'.has k7 r.c 23) (h0 := h) b7 (fun h' e => by rw [e.at, hv])
  have c1 := @c7 1 (.int .i64 r.y) 
  simp only [ev_off, Nat.zero_add, f0, f1, g0, g1, c1 rfl, ev_add, ev_sub]
  rw [wrap_i64 (x := (r.both (allR w g)).x + x) (by omega) (by omega), wrap_i64 (x := (r.both (allR w g)).x + x - r.x) (by omega) (by omega), wrap_i64 (x := (r.both (allR w g)).y + y) (by omega) (by omega), wrap_i64 (x := (r.both (allR w g)).y + y - r.y) (by omega) (by omega)]
  refine s.st (Nat.le_of_ble_eq_true rfl) trivial (fun h1 s1 => ⟨s1.b1.has, ?_⟩)
  refine s1.st (Nat.le_of_ble_eq_true rfl) trivial (fun h2 s2 => ?_)
  have s2 : HW.Sep h0 (Blk k11 (frR r w g x y).c 23 :: Blk k7 r.c 23 :: Blk kg (grd w g v) 68 :: Sl encCe 4 v l :: F) h2 := s2
  refine ⟨fun h' => h'.has k11 (frR r w g x y).c 23, s2.has, ?_⟩
  have cA : ∀ {K : Value → Prop}, sLdNC (fun h' => h'.has k11 (frR r w g x y).c 23) (ptr k11 0) 4 K = K (frR r w g x y).v := fun {K} => ldnc_all (C := fun h' => h'.has k11 (frR r w g x y).c 23) (h0 := h2) s2.has rfl (fun _ e => e)
  rw [cA]
  exact three (a := frR r w g x y) (fun h' e => e.has s2.has) s2 ⟨_, s2.b2⟩ (fun n h' s' => j2_spec z wx wy ⟨r1, r2, r3, r4⟩ rfl rfl s' H0 H1)
theorem blit_spec {kg : Nat} {w g x y : Int} {v : Value} {l : List Ce} {r : Rc} (z : szOk w g l)
    (s : HW.Sep h0 (Blk kg (grd w g v) 68 :: Sl encCe 4 v l :: F) h)
    (H0 : (!(r.right && nearB x && nearB y) || ((frR r w g x y).empty || (itR r w g x y w g).empty)) = true → ∀ h', HW.Sep h0 (Blk kg (grd w g v) 68 :: Sl encCe 4 v l :: F) h' → R (.int .i64 0) h')
    (H1 : (!(r.right && nearB x && nearB y) || ((frR r w g x y).empty || (itR r w g x y w g).empty)) = false → ∀ h', HW.Sep h0 (Blk kg (grd w g v) 68 :: Sl encCe 4 v (putRows l w (itR r w g x y w g).x (itR r w g x y w g).y (srow l w ((itR r w g x y w g).x - x + r.x) ((itR r w g x y w g).y - y + r.y) (itR r w g x y w g).w) (itR r w g x y w g).h.toNat) :: F) h' → R (.int .i64 ((itR r w g x y w g).w * (itR r w g x y w g).h)) h') :
    grid_Grid_Blit_c (ptr kg 0) (ptr kg 0) r.v (.int .i64 x) (.int .i64 y) h R := by
  apply grid_Grid_Blit_runs
  unfold grid_Grid_Blit_S
  refine s.box (c := r.c) r.cells (fun k7 h1 s1 => ?_)
  have e0 : ∀ {K : Value → Prop}, sEqlNil (ptr kg 0) K = K (.bool false) := by intro K; simp only [ptr, ev_eqlNil, Option.isNone_some]
  rw [e0]
  refine or_ext (y := !r.right) (fun _ K' HK => by
    rw [s1.ldall (n := 4) rfl]
    exact rright_spec (r := r) (fun h2 e2 => by rw [ev_not]; exact HK _ e2)) (fun h2 e2 => ?_)
  refine or_ext (y := !nearB x) (fun _ K' HK => gnear_spec (by rw [ev_not]; exact HK _ (Ext.refl _))) (fun h3 e3 => ?_)
  refine or_ext (y := !nearB y) (fun _ K' HK => gnear_spec (by rw [ev_not]; exact HK _ (Ext.refl _))) (fun h4 e4 => ?_)
  have s4 := ((s1.ext' e2).ext' e3).ext' e4
  rw [ev_if]
  have ec : (false || !r.right || !nearB x || !nearB y) = !(r.right && nearB x && nearB y) := by cases r.right <;> cases nearB x <;> cases nearB y <;> rfl
  rw [ec]
  cases hc : (r.right && nearB x && nearB y) with
  | false =>
    rw [if_pos (by decide)]
    exact H0 (by rw [hc]; rfl) h4 s4.tail
  | true =>
    rw [if_neg (by decide)]
    rw [hc] at H0 H1
    simp only [Bool.not_true, Bool.false_or] at H0 H1
    simp only [Bool.and_eq_true] at hc
    obtain ⟨⟨c1, c2⟩, c3⟩ := hc
    have wx : -1073741824 ≤ x ∧ x ≤ 1073741824 := by simpa [nearB] using c2
    have wy : -1073741824 ≤ y ∧ y ≤ 1073741824 := by simpa [nearB] using c3
    refine ⟨fun h' => h'.has k7 r.c 23, s4.has, ?_⟩
    have cA : ∀ {K : Value → Prop}, sLdNC (fun h' => h'.has k7 r.c 23) (ptr k7 0) 4 K = K r.v := fun {K} => ldnc_all (C := fun h' => h'.has k7 r.c 23) (h0 := h4) s4.has rfl (fun _ e => e)
    rw [cA]
    exact three (a := r) (fun h' e => e.has s4.has) s4 ⟨_, s4.b1⟩ (fun n h' s' => j1_spec z wx wy ((Rc.right_iff r).1 c1) s' H0 H1)
end
end Go.Proofs.Ythhpieidlpjbmaa
