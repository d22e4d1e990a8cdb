/- GridBack. -/
import Derived.Test.YthhpieidlpjbmaaBl2
import Derived.Test.YthhpieidlpjbmaaFil
import Derived.Test.YthhpieidlpjbmaaEqg
import Derived.Test.YthhpieidlpjbmaaAct
import Derived.Test.YthhpieidlpjbmaaFbetonylaw06GridBack
set_option linter.unusedSimpArgs false
set_option linter.unusedVariables false
namespace Go.Proofs.Ythhpieidlpjbmaa
open Go Go.HW

theorem oneD {rx rw x : Int} (hx : 0 ≤ x ∧ x < 12) : mx (mx x 0 + rx - x) 0 = mx (mx rx 0 + x - rx) 0 - x + rx ∧ mn (mx x 0 + rx - x + (mn (x + rw) (0 + 12) - mx x 0)) (0 + 12) = mn (mx rx 0 + x - rx + (mn (rx + rw) (0 + 12) - mx rx 0)) (0 + 12) - x + rx := by
  simp only [mx, mn]
  constructor
  · split <;> split <;> split <;> split <;> omega
  · split <;> split <;> split <;> split <;> split <;> split <;> omega
theorem both_form {a : Rc} {w g : Int} (he : (a.both (allR w g)).empty = false) : a.right = true ∧ (mx a.x 0 < mn (a.x + a.w) (0 + w) ∧ mx a.y 0 < mn (a.y + a.h) (0 + g)) ∧ a.both (allR w g) = ⟨mx a.x 0, mx a.y 0, mn (a.x + a.w) (0 + w) - mx a.x 0, mn (a.y + a.h) (0 + g) - mx a.y 0⟩ := by
  have z1 : (allR w g).x = 0 := rfl
  have z2 : (allR w g).y = 0 := rfl
  have z3 : (allR w g).w = w := rfl
  have z4 : (allR w g).h = g := rfl
  have hq : a.both (allR w g) = a.both (allR w g) := rfl
  revert he
  unfold Rc.both
  split
  · rename_i hr
    unfold rof
    rw [z1, z2, z3, z4]
    split
    · intro he; unfold Rc.empty at he; simp at he
    · intro _
      exact ⟨(Bool.and_eq_true _ _ ▸ hr).1, by omega, rfl⟩
  · intro he; unfold Rc.empty at he; simp at he
theorem both_back {a : Rc} {w g : Int} (hw : 1 ≤ w ∧ w ≤ 512) (hg : 1 ≤ g ∧ g ≤ 512) (ha : a.right = true) (h1 : mx a.x 0 < mn (a.x + a.w) (0 + w)) (h2 : mx a.y 0 < mn (a.y + a.h) (0 + g)) : a.both (allR w g) = ⟨mx a.x 0, mx a.y 0, mn (a.x + a.w) (0 + w) - mx a.x 0, mn (a.y + a.h) (0 + g) - mx a.y 0⟩ := by
  have z1 : (allR w g).x = 0 := rfl
  have z2 : (allR w g).y = 0 := rfl
  have z3 : (allR w g).w = w := rfl
  have z4 : (allR w g).h = g := rfl
  unfold Rc.both
  rw [ha, allR_right hw hg, Bool.and_true, if_pos rfl]
  unfold rof
  rw [z1, z2, z3, z4, if_neg (by omega)]
/-- The way back comes from where it went to. -/
theorem back_geo {r : Rc} {x y : Int} (hx : 0 ≤ x ∧ x < 12) (hy : 0 ≤ y ∧ y < 12) (he : (itR r 12 12 x y 12 12).empty = false) : r.right = true ∧ (⟨x, y, r.w, r.h⟩ : Rc).right = true ∧ (frR ⟨x, y, r.w, r.h⟩ 12 12 r.x r.y).empty = false ∧ itR ⟨x, y, r.w, r.h⟩ 12 12 r.x r.y 12 12 = ⟨(itR r 12 12 x y 12 12).x - x + r.x, (itR r 12 12 x y 12 12).y - y + r.y, (itR r 12 12 x y 12 12).w, (itR r 12 12 x y 12 12).h⟩ := by
  have hge := geo he
  have hit : itR r 12 12 x y 12 12 = (frR r 12 12 x y).both (allR 12 12) := rfl
  rw [hit] at he
  have he1 := he
  obtain ⟨f1, ⟨f2, f3⟩, f4⟩ := both_form he1
  have hb := both_in he
  have d1 : (frR r 12 12 x y).x = (r.both (allR 12 12)).x + x - r.x := rfl
  have d2 : (frR r 12 12 x y).y = (r.both (allR 12 12)).y + y - r.y := rfl
  have d3 : (frR r 12 12 x y).w = (r.both (allR 12 12)).w := rfl
  have d4 : (frR r 12 12 x y).h = (r.both (allR 12 12)).h := rfl
  have he0 : (r.both (allR 12 12)).empty = false := by
    unfold Rc.empty
    simp only [Bool.or_eq_false_iff, decide_eq_false_iff_not]
    omega
  obtain ⟨g1, ⟨g2, g3⟩, g4⟩ := both_form he0
  rw [g4] at d1 d2 d3 d4
  simp only at d1 d2 d3 d4
  obtain ⟨r1, r2, r3, r4⟩ := (Rc.right_iff r).1 g1
  obtain ⟨ox1, ox2⟩ := oneD (rx := r.x) (rw := r.w) hx
  obtain ⟨oy1, oy2⟩ := oneD (rx := r.y) (rw := r.h) hy
  rw [d1, d3] at f2
  rw [d2, d4] at f3
  have hr' : (⟨x, y, r.w, r.h⟩ : Rc).right = true := (Rc.right_iff _).2 (by unfold Rc.Ok; simp only; omega)
  have k1 : mx x 0 = x := by unfold mx; split <;> omega
  have k2 : mx y 0 = y := by unfold mx; split <;> omega
  have m1 := mx_le (mx r.x 0 + x - r.x) 0
  have m2 := mx_le (mx r.y 0 + y - r.y) 0
  have m3 := mn_le (mx r.x 0 + x - r.x + (mn (r.x + r.w) (0 + 12) - mx r.x 0)) (0 + 12)
  have m4 := mn_le (mx r.y 0 + y - r.y + (mn (r.y + r.h) (0 + 12) - mx r.y 0)) (0 + 12)
  have n1 := mx_le r.x 0
  have n2 := mx_le r.y 0
  have n3 := mn_le (r.x + r.w) (0 + 12)
  have n4 := mn_le (r.y + r.h) (0 + 12)
  have q1 : mx x 0 < mn (x + r.w) (0 + 12) := by rw [k1]; unfold mn; split <;> omega
  have q2 : mx y 0 < mn (y + r.h) (0 + 12) := by rw [k2]; unfold mn; split <;> omega
  have hB := both_back (a := ⟨x, y, r.w, r.h⟩) (w := 12) (g := 12) (by omega) (by omega) hr' q1 q2
  simp only at hB
  have e1 : (frR ⟨x, y, r.w, r.h⟩ 12 12 r.x r.y) = ⟨mx x 0 + r.x - x, mx y 0 + r.y - y, mn (x + r.w) (0 + 12) - mx x 0, mn (y + r.h) (0 + 12) - mx y 0⟩ := by
    unfold frR
    rw [hB]
  have u1 := mn_le (x + r.w) (0 + 12)
  have u2 := mn_le (y + r.h) (0 + 12)
  have e2 : (frR ⟨x, y, r.w, r.h⟩ 12 12 r.x r.y).right = true := by
    rw [e1]; exact (Rc.right_iff _).2 (by unfold Rc.Ok; simp only; omega)
  refine ⟨g1, hr', ?_, ?_⟩
  · rw [e1]; unfold Rc.empty; simp only [Bool.or_eq_false_iff, decide_eq_false_iff_not]; omega
  · have v1 : mx (mx x 0 + r.x - x) 0 < mn (mx x 0 + r.x - x + (mn (x + r.w) (0 + 12) - mx x 0)) (0 + 12) := by rw [ox1, ox2]; omega
    have v2 : mx (mx y 0 + r.y - y) 0 < mn (mx y 0 + r.y - y + (mn (y + r.h) (0 + 12) - mx y 0)) (0 + 12) := by rw [oy1, oy2]; omega
    have hC := both_back (a := frR ⟨x, y, r.w, r.h⟩ 12 12 r.x r.y) (w := 12) (g := 12) (by omega) (by omega) e2 (by rw [e1]; exact v1) (by rw [e1]; exact v2)
    unfold itR
    rw [hC, f4, e1, d1, d2, d3, d4]
    simp only [Rc.mk.injEq]
    rw [ox1, ox2, oy1, oy2]
    omega
theorem srow_cell {l : List Ce} {w g x0 y0 n j : Int} {k : Nat} (z : szOk w g l) (hx : 0 ≤ x0 ∧ x0 + n ≤ w) (hy : 0 ≤ y0 + k ∧ y0 + k < g) (hj : 0 ≤ j ∧ j < n) : (srow l w x0 y0 n k).getD j.toNat ce0 = cell l w g (x0 + j) (y0 + k) := by
  have zz := z
  obtain ⟨z1, z2, z3, z4, z5⟩ := zz
  have m := sz_mul ⟨z1, z2⟩ z4 hy
  rw [Int.mul_comm w g] at z5
  unfold cell srow
  rw [if_pos (inG_iff.2 (by omega)), getD_of, getD_of, List.getElem?_drop, List.getElem?_take_of_lt (by omega), List.getElem?_drop, List.getElem?_take_of_lt (by omega)]
  congr 2
  omega
/-- What cells a grid has behind a copy. -/
theorem copy_cell {l l' : List Ce} {r : Rc} {w g x y w' g' a b : Int} (z : szOk w g l) (z' : szOk w' g' l') (he : (itR r w g x y w' g').empty = false) :
    cell (putRows l' w' (itR r w g x y w' g').x (itR r w g x y w' g').y (srow l w ((itR r w g x y w' g').x - x + r.x) ((itR r w g x y w' g').y - y + r.y) (itR r w g x y w' g').w) (itR r w g x y w' g').h.toNat) w' g' a b = if (itR r w g x y w' g').has a b then cell l w g (a - x + r.x) (b - y + r.y) else cell l' w' g' a b := by
  obtain ⟨g1, g2, g3, g4, g5, g6⟩ := geo he
  generalize itR r w g x y w' g' = it at g1 g2 g3 g4 g5 g6
  rw [cell_put z' (m := it.w) g3 (by omega) g4.1 (by omega) (fun k hk => by rw [srow_len z g1 g5 (by omega)]; omega)]
  by_cases hh : it.has a b
  · have h2 := hh
    unfold Rc.has at h2
    rw [if_pos hh, if_pos (by omega), srow_cell z g1 (by omega) (by omega)]
    congr 1 <;> omega
  · have h2 := hh
    unfold Rc.has at h2
    rw [if_neg hh, if_neg (by omega)]

section
variable {h0 h : Heap} {F : List HP} {R : Value → Heap → Prop}
set_option maxRecDepth 20000 in
theorem back_law {l : List Act} {u : Value} {r : Rc} {x y : Int} (wx : 0 ≤ x ∧ x < 256) (wy : 0 ≤ y ∧ y < 256) (q : Seq encAct 11 h u l) (H : ∀ h', Ext h h' → R (.bool true) h') : betonylaw06_GridBack_c u r.v (.int .u8 x) (.int .u8 y) h R := by
  apply betonylaw06_GridBack_runs
  unfold betonylaw06_GridBack_S
  refine (HW.Sep.start h).box (c := r.c) r.cells (fun k5 h1 s1 => ?_)
  rw [(q.ext s1.ext).len, ev_gt, ev_if]
  split
  · exact awake06 (fun h2 e2 => H _ (s1.ext.trans e2))
  rename_i h40
  have h40 : l.length ≤ 40 := by simp at h40; omega
  refine new_spec (by unfold i64; omega) (by unfold i64; omega) (fun hc' => (hc' (by omega)).elim) (fun _ kg v h2 z s2 => ?_)
  have s2 := s1.add s2
  refine new_spec (by unfold i64; omega) (by unfold i64; omega) (fun hc' => (hc' (by omega)).elim) (fun _ ko vo h3 zo s3 => ?_)
  have s3 := s2.add s3
  have s3 : HW.Sep h [Blk ko (grd 12 12 vo) 68, Sl encCe 4 vo (List.replicate (12 * 12 : Int).toNat ce0), Blk kg (grd 12 12 v) 68, Sl encCe 4 v (List.replicate (12 * 12 : Int).toNat ce0), Blk k5 r.c 23] h3 := s3
  have ee : ∀ {k : Nat} {K : Value → Prop}, sEqlNil (ptr k 0) K = K (.bool false) := by intro k K; simp only [ptr, ev_eqlNil, Option.isNone_some]
  simp only [ee, ev_or_p, ev_if]
  rw [if_neg (by decide)]
  generalize List.replicate (12 * 12 : Int).toNat ce0 = lo at z zo s3
  refine ⟨fun t h' => ∃ (i : Nat) (L : List Ce), i ≤ l.length ∧ szOk 12 12 L ∧ t = .int .i64 i ∧ HW.Sep h [Blk kg (grd 12 12 v) 68, Sl encCe 4 v L, Blk ko (grd 12 12 vo) 68, Sl encCe 4 vo lo, Blk k5 r.c 23] h', fun t _ => match t with | .int _ k => (l.length - k).toNat | _ => 0, ⟨0, lo, Nat.zero_le _, z, rfl, s3.b2.b3.b1⟩, ?_⟩
  rintro _ h4 ⟨i, L, hi, zL, rfl, s4⟩
  simp only []
  unfold betonylaw06_GridBack_l1
  have q4 := q.ext s4.ext
  rw [q4.len, ev_lt, ev_if]
  rcases Nat.lt_or_ge i l.length with hlt | hge
  · rw [if_pos (decide_eq_true (by omega))]
    have hj : l[i]? = some l[i] := List.getElem?_eq_getElem hlt
    generalize l[i] = A at hj
    have ix : ∀ {K : Value → Prop}, sIxS u (.int .i64 (i : Int)) 11 K = K (eltP u i 11) := fun {K} => q4.elt hlt _
    have e1 : ∀ {K : Value → Prop}, sOff (eltP u i 11) 1 (fun p => sLdN h4 p 4 K) = K A.r.v := fun {K} => part A.r.c.toList ([.int .i64 A.x, .int .i64 A.y] ++ encCe A.c) q4 hj rfl rfl
    have e2 : ∀ {K : Value → Prop}, sOff (eltP u i 11) 7 (fun p => sLdN h4 p 4 K) = K (.agg A.c.a) := fun {K} => part A.c.a.toList [] q4 hj rfl rfl
    rw [ix, e1, ix, e2]
    refine fill_spec (r := A.r) (c := A.c) zL s4 (fun h5 s5 => ?_)
    rw [ev_add, wrap_i64 (by omega) (by omega)]
    exact ⟨⟨i + 1, _, hlt, fillR_ok zL, by rw [Int.natCast_add]; rfl, s5⟩, by simp only; omega⟩
  rw [if_neg (by simp; omega)]
  have cx : ∀ {K : Value → Prop}, sConv .i64 (.int .u8 x) K = K (.int .i64 x) := fun {K} => by rw [ev_conv, wrap_i64 (by omega) (by omega)]
  have cy : ∀ {K : Value → Prop}, sConv .i64 (.int .u8 y) K = K (.int .i64 y) := fun {K} => by rw [ev_conv, wrap_i64 (by omega) (by omega)]
  have rx : ∀ {K : Value → Prop}, sRem .i64 (.int .i64 x) (.int .i64 12) K = K (.int .i64 (x % 12)) := fun {K} => by rw [ev_rem (by decide), Int.tmod_eq_emod_of_nonneg wx.1]
  have ry : ∀ {K : Value → Prop}, sRem .i64 (.int .i64 y) (.int .i64 12) K = K (.int .i64 (y % 12)) := fun {K} => by rw [ev_rem (by decide), Int.tmod_eq_emod_of_nonneg wy.1]
  simp only [cx, cy, rx, ry]
  rw [s4.b4.ldall (n := 4) rfl]
  have hx : 0 ≤ x % 12 ∧ x % 12 < 12 := by omega
  have hy : 0 ≤ y % 12 ∧ y % 12 < 12 := by omega
  refine blit2_spec (r := r) zL zo s4 (fun hc h5 s5 => ?_) (fun hc h5 s5 => ?_)
  · rw [ev_eq, ev_if, if_pos (by decide)]
    exact awake06 (fun h6 e6 => H _ (s5.ext.trans e6))
  have hc2 := hc
  simp only [Bool.or_eq_false_iff] at hc2
  obtain ⟨_, _, hie⟩ := hc2
  obtain ⟨bg1, bg2, bg3, bg4⟩ := back_geo hx hy hie
  obtain ⟨g1, g2, g3, g4, g5, g6⟩ := geo hie
  have cO := fun a b => copy_cell (a := a) (b := b) zL zo hie
  have zO : szOk 12 12 (putRows lo 12 (itR r 12 12 (x % 12) (y % 12) 12 12).x (itR r 12 12 (x % 12) (y % 12) 12 12).y (srow L 12 ((itR r 12 12 (x % 12) (y % 12) 12 12).x - x % 12 + r.x) ((itR r 12 12 (x % 12) (y % 12) 12 12).y - y % 12 + r.y) (itR r 12 12 (x % 12) (y % 12) 12 12).w) (itR r 12 12 (x % 12) (y % 12) 12 12).h.toNat) := put_ok zo
  generalize putRows lo 12 (itR r 12 12 (x % 12) (y % 12) 12 12).x (itR r 12 12 (x % 12) (y % 12) 12 12).y (srow L 12 ((itR r 12 12 (x % 12) (y % 12) 12 12).x - x % 12 + r.x) ((itR r 12 12 (x % 12) (y % 12) 12 12).y - y % 12 + r.y) (itR r 12 12 (x % 12) (y % 12) 12 12).w) (itR r 12 12 (x % 12) (y % 12) 12 12).h.toNat = O at cO zO s5
  generalize itR r 12 12 (x % 12) (y % 12) 12 12 = it at bg4 g1 g2 g3 g4 g5 g6 cO
  generalize x % 12 = X at hx bg2 bg3 bg4 g1 g2 cO
  generalize y % 12 = Y at hy bg2 bg3 bg4 g1 g2 cO
  have m0 : 1 * 1 ≤ it.w * it.h := Int.mul_le_mul g5 g6 (by decide) (by omega)
  rw [ev_eq, ev_if, if_neg (by simp; omega)]
  refine clone_spec s5 zL (fun kb vb h6 s6 => ?_)
  have s6 : HW.Sep h [Blk kb (grd 12 12 vb) 68, Sl encCe 4 vb L, Blk kg (grd 12 12 v) 68, Sl encCe 4 v L, Blk ko (grd 12 12 vo) 68, Sl encCe 4 vo O, Blk k5 r.c 23] h6 := s6
  have b5 : h6.has k5 r.c 23 := (s6.sel [6] rfl : HW.Sep h [Blk k5 r.c 23] h6).has
  have f0 : ∀ {K : Value → Prop}, sLd h6 (ptr k5 0) K = K (.int .i64 r.x) := ev_ld_has b5 rfl
  have f1 : ∀ {K : Value → Prop}, sLd h6 (ptr k5 1) K = K (.int .i64 r.y) := ev_ld_has b5 rfl
  have f2 : ∀ {K : Value → Prop}, sLd h6 (ptr k5 2) K = K (.int .i64 r.w) := ev_ld_has b5 rfl
  have f3 : ∀ {K : Value → Prop}, sLd h6 (ptr k5 3) K = K (.int .i64 r.h) := ev_ld_has b5 rfl
  simp only [ev_off, Nat.zero_add, f0, f1, f2, f3]
  refine build_intro (cs := (⟨X, Y, r.w, r.h⟩ : Rc).c) ⟨rfl, Nat.le_of_ble_eq_true rfl, rfl, Nat.le_of_ble_eq_true rfl, rfl, Nat.le_of_ble_eq_true rfl, rfl, Nat.le_of_ble_eq_true rfl, rfl⟩ ?_
  obtain ⟨r1, r2, r3, r4⟩ := (Rc.right_iff r).1 bg1
  have n1 : nearB r.x = true := by unfold nearB; simp; omega
  have n2 : nearB r.y = true := by unfold nearB; simp; omega
  have e3 : (itR ⟨X, Y, r.w, r.h⟩ 12 12 r.x r.y 12 12).empty = false := by rw [bg4]; unfold Rc.empty; simp only [Bool.or_eq_false_iff, decide_eq_false_iff_not]; omega
  have s6' : HW.Sep h [Blk ko (grd 12 12 vo) 68, Sl encCe 4 vo O, Blk kg (grd 12 12 v) 68, Sl encCe 4 v L, Blk kb (grd 12 12 vb) 68, Sl encCe 4 vb L] h6 := s6.sel [4, 5, 2, 3, 0, 1] rfl
  refine blit2_spec (r := ⟨X, Y, r.w, r.h⟩) zO zL s6' (fun hc h7 s7 => ?_) (fun hc h7 s7 => ?_)
  · rw [bg2, n1, n2, bg3, e3] at hc; exact absurd hc (by decide)
  have cB := fun a b => copy_cell (a := a) (b := b) zO zL e3
  rw [bg4] at cB s7 ⊢
  simp only at cB s7 ⊢
  have eL : putRows L 12 (it.x - X + r.x) (it.y - Y + r.y) (srow O 12 (it.x - X + r.x - r.x + X) (it.y - Y + r.y - r.y + Y) it.w) it.h.toNat = L := by
    refine cells_ext (put_ok zL) zL (fun a b hab => ?_)
    rw [cB a b]
    by_cases hh : (⟨it.x - X + r.x, it.y - Y + r.y, it.w, it.h⟩ : Rc).has a b
    · rw [if_pos hh, cO, if_pos (by unfold Rc.has at hh ⊢; simp only at hh; omega)]
      congr 1 <;> omega
    · rw [if_neg hh]
  rw [eL] at s7
  rw [ev_ge, decide_eq_true (by omega)]
  obtain ⟨k1, k2, q1, q2⟩ : h7.has kg (grd 12 12 v) 68 ∧ h7.has kb (grd 12 12 vb) 68 ∧ Seq encCe 4 h7 v L ∧ Seq encCe 4 h7 vb L := ⟨s7.b2.has, s7.b4.has, s7.b3.seq, (s7.sel [5] rfl : HW.Sep h [Sl encCe 4 vb L] h7).seq⟩
  refine and_ext (y := true) (fun _ K' HK => ?_) (fun h8 e8 => ?_)
  · rw [ev_gt, decide_eq_false (by omega)]
    refine or_ext (y := true) (fun _ K'' HK' => ?_) (fun h8 e8 => HK _ e8)
    refine equal_spec (by have := zL.2.2.2.2; omega) k1 k2 q1 q2 ?_
    rw [decide_eq_true rfl]; exact HK' _ (Ext.refl _)
  refine and_ext (y := true) (fun _ K' HK => awake06 (fun h9 e9 => HK _ e9)) (fun h9 e9 => ?_)
  exact H _ ((s7.ext.trans e8).trans e9)
end
end Go.Proofs.Ythhpieidlpjbmaa
