/- Texts in one. -/
import Derived.LaidMore
import Derived.LaidHandle
import Derived.LaidLaws
import Derived.MakeChecks
import Derived.Test.YtmhhjpfkipficaaDoorRows
import Derived.Test.YtmhhjpfkipficaaDoorKw2
section
/- The shallow reading of one function, and that the function does it. Written by a program. -/
set_option linter.unusedVariables false
namespace Go.Proofs.YtmhhjpfkipficaaDoor
open Go Go.HW _root_.Go.Proofs.Tryd

def grid_Grid_Row_S (x0 x1 : Value) (h : Heap) (R : Value → Heap → Prop) : Prop :=
  sLt x1 (.int .i64 0) fun x6 =>
  sOr x6 (fun k =>
  sNil x0 fun x10 =>
  sOff x10 1 fun x11 =>
  sLd h x11 fun x12 =>
  sGe x1 x12 fun x13 =>
  k x13) fun x14 =>
  sIf x14 (R (.slice none 0 0) h) (grid_Grid_row_c x0 x1 h fun x17 h => 
  slices_Clone_api_Cell_api_Cell_c x17 h fun x18 h_1 => 
  R x18 h_1)
set_option maxRecDepth 100000 in
theorem grid_Grid_Row_runs {x0 x1 : Value} {h : Heap} {R : Value → Heap → Prop} (H : grid_Grid_Row_S x0 x1 h R) : grid_Grid_Row_c x0 x1 h R := by
 unfold grid_Grid_Row_S at H
 refine runsof (b := (mk (Ap [x0,x1] 17))) call94 func94 rfl fun w0 HA => wp_seq (lwp_list ?_)
 refine lsassign (.slice none 0 0) <| ls_nil (then_normal ?_)
 refine freq (mk (Ap [x0,x1,ud,ud,(.slice none 0 0)] 14)) <| wp_seq <| wp_seq (lwp_list ?_)
 refine lsmove x1 <| lsp 6 (psLt H) fun x6 H => lsmove x6 <| ls_or [(),(),(),(),(),(),()] (fun K a w => ∃ (D : Nat → Value) (x14 : Value),a = (mk ([x0,x1,ud,ud,(.slice none 0 0),x1,x6,x6] ++ (Ad D 0 6 (Ap [x14] 4)))) ∧ At w0 w h ∧ K x14) H (fun hb H => ?_) (fun hb H => ?_) ?_
 ·refine lsmove (hg := by rw [hb]; kernel_rfl) x1 <| lsmove (hg := by rw [hb]; kernel_rfl) x0 <| lsp (hg := by rw [hb]; kernel_rfl) 10 (pnil H) fun x10 H => lsp (hg := by rw [hb]; kernel_rfl) 11 (poff underlying89 rfl sizeOf3 rfl H) fun x11 H => lsy (hg := by rw [hb]; kernel_rfl) 12 HA (yld isAgg3 H) fun x12 H => lsp (hg := by rw [hb]; kernel_rfl) 13 (psGe H) fun x13 H => lspickf x13 (by rw [hb]; kernel_rfl) <| ls_nil (then_normal ?_)
  exact ⟨(gd ([x1,x0,x10,x11,x12,x13])),x13,by kernel_rfl,HA,H⟩
 ·refine lsskip (hg := by rw [hb]; kernel_rfl) 8 <| lsskip (hg := by rw [hb]; kernel_rfl) 9 <| lsskip (hg := by rw [hb]; kernel_rfl) 10 <| lsskip (hg := by rw [hb]; kernel_rfl) 11 <| lsskip (hg := by rw [hb]; kernel_rfl) 12 <| lsskip (hg := by rw [hb]; kernel_rfl) 13 <| lspickt (.bool true) (by rw [hb]; kernel_rfl) <| ls_nil (then_normal ?_)
  exact ⟨(gd (Ap [] 6)),(.bool true),by kernel_rfl,HA,H⟩
 ·rintro _ w ⟨D,x14,rfl,HA,H⟩
  refine ls_nil (then_normal ?_)
  refine freq (mk ([x0,x1,ud,ud,(.slice none 0 0),x1,x6,x6] ++ (Ad D 0 6 (Ap [x14] 4)))) <| wp_if rfl H (fun H => ?_) (fun H => ?_)
  ·refine wp_seq (lwp_list ?_)
   refine lsassign (.slice none 0 0) <| ls_nil (then_normal ?_)
   refine freq (mk ([x0,x1,ud,ud,(.slice none 0 0),x1,x6,x6] ++ (Ad D 0 6 (Ap [x14] 4)))) <| wp_ret <| then_ret <| end1 (results94) (by kernel_rfl) (by kernel_rfl) HA H _ (.inr rfl)
  ·refine wp_skip <| then_normal <| freq (mk ([x0,x1,ud,ud,(.slice none 0 0),x1,x6,x6] ++ (Ad D 0 6 (Ap [x14] 4)))) <| wp_seq (lwp_list ?_)
   refine lsmove x0 <| lsmove x1 <| lsd 17 HA (dcall H) fun x17 h w_1 H HA_1 => lsd 18 HA_1 (dcall H) fun x18 h_1 w_2 H HA_2 => lsassign x18 <| ls_nil (then_normal ?_)
   refine freq (mk ([x0,x1,ud,ud,x18,x1,x6,x6] ++ (Ad D 0 6 [x14,x0,x1,x17,x18]))) <| wp_ret <| end1 (results94) (by kernel_rfl) (by kernel_rfl) HA_2 H _ (.inr rfl)

end Go.Proofs.YtmhhjpfkipficaaDoor


end

section
/- Grids told by their cells. -/
set_option linter.unusedSimpArgs false
set_option linter.unusedVariables false
namespace Go.Proofs.YtmhhjpfkipficaaDoor
open Go Go.HW

section
variable {h0 h : Heap} {F : List HP} {R : Value → Heap → Prop} {kg : Nat} {w g : Int} {v : Value} {l : List Ce}
theorem copy_spec {x y : Int} {r : Rc} (z : szOk w g l)
    (s : HW.Sep h0 (Blk kg (grd w g v) 89 :: Sl encCe 4 v l :: F) h)
    (H0 : (!(r.right && nearB x && nearB y) || ((frR r w g x y).empty || (itR r w g x y w g).empty)) = true → ∀ h', HW.Sep h0 (Blk kg (grd w g v) 89 :: Sl encCe 4 v l :: F) h' → R (.int .i64 0) h')
    (H1 : (!(r.right && nearB x && nearB y) || ((frR r w g x y).empty || (itR r w g x y w g).empty)) = false → ∀ h', HW.Sep h0 (Blk kg (grd w g v) 89 :: Sl encCe 4 v (putRows l w (itR r w g x y w g).x (itR r w g x y w g).y (srow l w ((itR r w g x y w g).x - x + r.x) ((itR r w g x y w g).y - y + r.y) (itR r w g x y w g).w) (itR r w g x y w g).h.toNat) :: F) h' → R (.int .i64 ((itR r w g x y w g).w * (itR r w g x y w g).h)) h') :
    grid_Grid_Copy_c (ptr kg 0) r.v (.int .i64 x) (.int .i64 y) h R := by
  apply grid_Grid_Copy_runs
  unfold grid_Grid_Copy_S
  refine s.box (c := r.c) r.cells (fun k5 h1 s1 => ?_)
  rw [s1.ldall (n := 4) rfl]
  exact blit_spec (r := r) z s1.b2.b2 (fun hc h2 s2 => H0 hc h2 (s2.b2.tail)) (fun hc h2 s2 => H1 hc h2 (s2.b2.tail))
theorem rowO_spec {y : Int} (s : HW.Sep h0 (Blk kg (grd w g v) 89 :: Sl encCe 4 v l :: F) h) (z : szOk w g l) (hy : 0 ≤ y ∧ y < g) (H : ∀ v' h', HW.Sep h0 (Sl encCe 4 v' ((l.take ((y + 1) * w).toNat).drop (y * w).toNat) :: Blk kg (grd w g v) 89 :: Sl encCe 4 v l :: F) h' → R v' h') : grid_Grid_Row_c (ptr kg 0) (.int .i64 y) h R := by
  apply grid_Grid_Row_runs
  unfold grid_Grid_Row_S
  have f1 : ∀ {K : Value → Prop}, sLd h (ptr kg 1) K = K (.int .i64 g) := s.ld rfl
  simp only [ev_lt, ev_ge, ev_nil, ev_off, Nat.zero_add, f1, ev_or_p, ev_if]
  rw [if_neg (by simp only [Bool.or_eq_true, decide_eq_true_eq]; omega)]
  refine row_spec s z hy ?_
  have zz := z
  obtain ⟨z1, z2, z3, z4, z5⟩ := zz
  have m := sz_mul ⟨z1, z2⟩ z4 hy
  rw [Int.mul_comm w g] at z5
  have rd : HW.Rd encCe 4 h0 (Blk kg (grd w g v) 89 :: Sl encCe 4 v l :: F) v l := Rd.own1
  exact clone_cells (rd.cut (i := (y * w).toNat) (j := ((y + 1) * w).toNat) (by omega) (by omega)) s (by rw [List.length_drop, List.length_take]; omega) (by rw [List.length_drop, List.length_take]; omega) (fun v' h1 c1 s1 => H v' h1 s1)
/-- A row's cells. -/
def rowL (C : Int → Int → Ce) (w y : Int) : List Ce := (List.range w.toNat).map fun (x : Nat) => C x y
theorem rowL_len (C : Int → Int → Ce) (w y : Int) : (rowL C w y).length = w.toNat := by unfold rowL; simp
theorem row_eq {y : Int} (z : szOk w g l) (hy : 0 ≤ y ∧ y < g) : (l.take ((y + 1) * w).toNat).drop (y * w).toNat = rowL (cell l w g) w y := by
  have zz := z
  obtain ⟨z1, z2, z3, z4, z5⟩ := zz
  have m := sz_mul ⟨z1, z2⟩ z4 hy
  rw [Int.mul_comm w g] at z5
  apply List.ext_getElem?
  intro x
  by_cases hx : x < w.toNat
  · obtain ⟨i, j, k, e1, e2, e3, e4, e5, e6⟩ := idx (x := (x : Int)) (y := y) z ⟨by omega, by omega⟩ hy
    have hk : k = x := by omega
    subst hk
    rw [e1, e2, Int.toNat_natCast, Int.toNat_natCast, cut_get e4 e5]
    unfold rowL
    rw [List.getElem?_map, List.getElem?_range hx]
    simp only [Option.map_some]
    unfold cell
    rw [if_pos (inG_iff.2 ⟨⟨by omega, by omega⟩, hy⟩), e6]
  · rw [List.getElem?_eq_none (by rw [List.length_drop, List.length_take]; omega), List.getElem?_eq_none (by rw [rowL_len]; omega)]
/-- A grid whose cells are told. -/
def Gc (kg : Nat) (w g : Int) (C : Int → Int → Ce) : HP := HP.ex fun p : Value × {l : List Ce // szOk w g l ∧ cell l w g = C} => HP.all [Blk kg (grd w g p.1) 89, Sl encCe 4 p.1 p.2.1]
variable {C : Int → Int → Ce}
theorem Gopen (s : HW.Sep h0 (Gc kg w g C :: F) h) : ∃ v l, szOk w g l ∧ cell l w g = C ∧ HW.Sep h0 (Blk kg (grd w g v) 89 :: Sl encCe 4 v l :: F) h := by
  obtain ⟨⟨v, ⟨l, z, e⟩⟩, s⟩ := s.open_ex
  exact ⟨v, l, z, e, s.open_all⟩
theorem Gshut (z : szOk w g l) (e : cell l w g = C) (s : HW.Sep h0 (Blk kg (grd w g v) 89 :: Sl encCe 4 v l :: F) h) : HW.Sep h0 (Gc kg w g C :: F) h :=
  Sep.shut_ex (A := fun p : Value × {l : List Ce // szOk w g l ∧ cell l w g = C} => HP.all [Blk kg (grd w g p.1) 89, Sl encCe 4 p.1 p.2.1]) ⟨v, ⟨l, z, e⟩⟩ (Sep.shut_all (L := [_, _]) s)
theorem Gsz (s : HW.Sep h0 (Gc kg w g C :: F) h) : (1 ≤ w ∧ w ≤ 512) ∧ (1 ≤ g ∧ g ≤ 512) := by
  obtain ⟨v, l, z, e, s⟩ := Gopen s
  exact ⟨⟨z.1, z.2.1⟩, z.2.2.1, z.2.2.2.1⟩
theorem cell_out {x y : Int} (h : ¬ inG w g x y = true) : cell l w g x y = ce0 := by unfold cell; rw [if_neg h]
theorem Gout (s : HW.Sep h0 (Gc kg w g C :: F) h) {x y : Int} (hn : ¬ inG w g x y = true) : C x y = ce0 := by
  obtain ⟨v, l, z, e, s⟩ := Gopen s
  rw [← e]; exact cell_out hn
theorem gat_spec {x y : Int} (hx : i64 x) (hy : i64 y) (s : HW.Sep h0 (Gc kg w g C :: F) h) (H : ∀ h', Ext h h' → R (.agg (C x y).a) h') : grid_Grid_At_c (ptr kg 0) (.int .i64 x) (.int .i64 y) h R := by
  obtain ⟨v, l, z, e, s⟩ := Gopen s
  refine at_spec hx hy s z (fun h' e' => ?_)
  rw [e]; exact H h' e'
def setF (C : Int → Int → Ce) (w g x y : Int) (c : Ce) : Int → Int → Ce := fun a b => if inG w g x y = true ∧ a = x ∧ b = y then c else C a b
theorem cell_set {x y : Int} {c : Ce} (z : szOk w g l) : cell (setC l w g x y c) w g = setF (cell l w g) w g x y c := by
  funext a b
  unfold setF setC
  by_cases hi : inG w g x y = true
  · rw [if_pos hi]
    have hxy := inG_iff.1 hi
    by_cases hab : inG w g a b = true
    · have h2 := inG_iff.1 hab
      obtain ⟨i, j, k, e1, e2, e3, e4, e5, e6⟩ := idx z hxy.1 hxy.2
      obtain ⟨i', j', k', f1, f2, f3, f4, f5, f6⟩ := idx z h2.1 h2.2
      unfold cell
      rw [if_pos hab, if_pos hab]
      by_cases he : a = x ∧ b = y
      · rw [if_pos ⟨hi, he⟩, he.1, he.2, getD_of, List.getElem?_set_self (by rw [e6]; omega)]; rfl
      · rw [if_neg (fun h => he h.2), getD_of, getD_of, List.getElem?_set_ne]
        intro hh
        have h3 := (idx_ne (w := w) (x := a) (y := b) (X := x) (m := 1) (Y := y) z.1 h2.1 ⟨hxy.1.1, by omega⟩)
        have h4 : y * w + x = b * w + a := by
          have n1 : (0 : Int) ≤ y * w + x := by omega
          have n2 : (0 : Int) ≤ b * w + a := by omega
          omega
        have := h3.1 ⟨by omega, by omega⟩
        omega
    · rw [cell_out hab, if_neg (fun h => by rw [h.2.1, h.2.2] at hab; exact hab hi), cell_out hab]
  · rw [if_neg hi, if_neg (fun h => hi h.1)]
theorem gset_spec {x y : Int} {c : Ce} (hx : i64 x) (hy : i64 y) (s : HW.Sep h0 (Gc kg w g C :: F) h) (H : ∀ h', HW.Sep h0 (Gc kg w g (setF C w g x y c) :: F) h' → R (.bool (inG w g x y)) h') : grid_Grid_Set_c (ptr kg 0) (.int .i64 x) (.int .i64 y) (.agg c.a) h R := by
  obtain ⟨v, l, z, e, s⟩ := Gopen s
  refine set_spec hx hy s z (fun h' s' => H h' (Gshut (l := setC l w g x y c) ?_ (by rw [cell_set z, e]) s'))
  unfold szOk; rw [setC_len]; exact z
theorem grow_spec {y : Int} (s : HW.Sep h0 (Gc kg w g C :: F) h) (hy : 0 ≤ y ∧ y < g) (H : ∀ v' h', HW.Sep h0 (Sl encCe 4 v' (rowL C w y) :: Gc kg w g C :: F) h' → R v' h') : grid_Grid_Row_c (ptr kg 0) (.int .i64 y) h R := by
  obtain ⟨v, l, z, e, s⟩ := Gopen s
  refine rowO_spec s z hy (fun v' h' s' => H v' h' ?_)
  rw [row_eq z hy, e] at s'
  exact (Gshut z e s'.p2).b1
def fillF (C : Int → Int → Ce) (w g : Int) (r : Rc) (c : Ce) : Int → Int → Ce := fun x y => if r.right = true ∧ r.has x y ∧ inG w g x y = true then c else C x y
theorem gfill_spec {r : Rc} {c : Ce} (s : HW.Sep h0 (Gc kg w g C :: F) h) (H : ∀ n h', HW.Sep h0 (Gc kg w g (fillF C w g r c) :: F) h' → R n h') : grid_Grid_Fill_c (ptr kg 0) r.v (.agg c.a) h R := by
  obtain ⟨v, l, z, e, s⟩ := Gopen s
  refine fill_spec z s (fun h' s' => H _ h' (Gshut (fillR_ok z) ?_ s'))
  funext x y
  rw [fillR_cell z, ← e]
  unfold fillF
  have bh := both_has (a := r) (w := w) (g := g) (x := x) (y := y) ⟨z.1, z.2.1⟩ ⟨z.2.2.1, z.2.2.2.1⟩
  by_cases hh : (r.both (allR w g)).has x y
  · rw [if_pos hh, if_pos (bh.1 hh)]
  · rw [if_neg hh, if_neg (fun h => hh (bh.2 h))]
/-- Cells of a right rectangle that lies in the grid go to another place in it. -/
def copyF (C : Int → Int → Ce) (w g : Int) (r : Rc) (x y : Int) : Int → Int → Ce := fun a b => if x ≤ a ∧ a < x + r.w ∧ y ≤ b ∧ b < y + r.h then C (a - x + r.x) (b - y + r.y) else C a b
theorem gcopy_spec {r : Rc} {x y : Int} (s : HW.Sep h0 (Gc kg w g C :: F) h) (hr : 0 ≤ r.x ∧ 0 ≤ r.y ∧ 0 ≤ r.w ∧ 0 ≤ r.h ∧ r.x + r.w ≤ w ∧ r.y + r.h ≤ g) (hx : 0 ≤ x ∧ x + r.w ≤ w) (hy : 0 ≤ y ∧ y + r.h ≤ g) (H : ∀ n h', HW.Sep h0 (Gc kg w g (copyF C w g r x y) :: F) h' → R n h') : grid_Grid_Copy_c (ptr kg 0) r.v (.int .i64 x) (.int .i64 y) h R := by
  have sz := Gsz s
  obtain ⟨v, l, z, e, s⟩ := Gopen s
  have hright : r.right = true := (Rc.right_iff r).2 (by unfold Rc.Ok; omega)
  by_cases he : r.w < 1 ∨ r.h < 1
  · have hC : copyF C w g r x y = C := by funext a b; unfold copyF; rw [if_neg (by omega)]
    have hem : (frR r w g x y).empty = true := by
      have hb : ∀ a b, ¬ (r.both (allR w g)).has a b := fun a b hh => by
        have := (both_has (a := r) (w := w) (g := g) (x := a) (y := b) sz.1 sz.2).1 hh
        unfold Rc.has at this; omega
      have h2 := hb (r.both (allR w g)).x (r.both (allR w g)).y
      unfold Rc.has at h2
      unfold Rc.empty frR
      simp only [Bool.or_eq_true, decide_eq_true_eq]
      omega
    refine copy_spec z s (fun _ h' s' => H _ h' ?_) (fun hc => ?_)
    · rw [hC]; exact Gshut z e s'
    · rw [hem] at hc; simp at hc
  · have hb : (r.both (allR w g)) = r := by
      unfold Rc.both
      rw [hright, allR_right sz.1 sz.2]
      simp only [Bool.and_self, if_true]
      unfold rof mx mn allR
      simp only
      rw [if_neg (by omega)]
      obtain ⟨rx, ry, rw', rh⟩ := r
      simp only at *
      simp only [Rc.mk.injEq]
      refine ⟨?_, ?_, ?_, ?_⟩ <;> (repeat' split) <;> omega
    have hfr : frR r w g x y = ⟨x, y, r.w, r.h⟩ := by
      unfold frR; rw [hb]; simp only [Rc.mk.injEq, and_true]; omega
    have hit : itR r w g x y w g = ⟨x, y, r.w, r.h⟩ := by
      unfold itR
      rw [hfr]
      have hr2 : (⟨x, y, r.w, r.h⟩ : Rc).right = true := (Rc.right_iff _).2 (by unfold Rc.Ok; simp only; omega)
      unfold Rc.both
      rw [hr2, allR_right sz.1 sz.2]
      simp only [Bool.and_self, if_true]
      unfold rof mx mn allR
      simp only
      rw [if_neg (by omega)]
      simp only [Rc.mk.injEq]
      refine ⟨?_, ?_, ?_, ?_⟩ <;> (repeat' split) <;> omega
    have hie : (itR r w g x y w g).empty = false := by rw [hit]; unfold Rc.empty; simp; omega
    refine copy_spec z s (fun hc => ?_) (fun _ h' s' => H _ h' (Gshut (put_ok z) ?_ s'))
    · have n1 : nearB x = true := by unfold nearB; simp; omega
      have n2 : nearB y = true := by unfold nearB; simp; omega
      have n3 : (frR r w g x y).empty = false := by rw [hfr]; unfold Rc.empty; simp; omega
      rw [hright, n1, n2, n3, hie] at hc
      simp at hc
    · funext a b
      rw [copy_cell z z hie, hit, ← e]
      unfold copyF Rc.has
      simp only
end
end Go.Proofs.YtmhhjpfkipficaaDoor


end

section
/- Package variables laid by the program's text: their cells. -/
namespace Go.HW
open Go

/-- The cells of a datum of numbers. -/
def flatD {H : Type} : DataW H → List Value
  | .lit (.int k n) => [.int k n]
  | .agg parts => flatDs parts
  | _ => []
 where flatDs {H : Type} : List (DataW H) → List Value
  | [] => []
  | d :: r => flatD d ++ flatDs r
def Shape.flat : Shape → Bool
  | .int _ => true
  | .agg r => r.flat
  | .nil => true
  | .cons s r => s.flat && r.flat
  | _ => false

section
variable {H : Type} {P : Program} {w : World} {base : Nat} {held : Bool}
def FF (en : TypeId × Value → H) (P : Program) (w : World) (base : Nat) (held : Bool) (s : Shape) : Prop :=
  (∀ t, isT P s t = true → s.flat = true → ∀ (n : Nat) (cs : List Value) (x : DataW H × List MemPlace), cs.length = s.size → DataW.trod en P w base (fun _ => true) held n t cs = some x → cs = flatD x.1) ∧
  (∀ l off (cs : List Value) (xs : List (DataW H × List MemPlace)), isR P s l off = true → s.flat = true → cs.length = off + s.size → xs.length = l.length → (∀ (i : Nat) (p : Nat × TypeId), l[i]? = some p → ∃ n, DataW.trod en P w base (fun _ => true) held n p.2 ((cs.drop p.1).take (P.cellsOf p.2)) = xs[i]?) → cs.drop off = flatD.flatDs (xs.map (·.1)))
theorem ff (en : TypeId × Value → H) (P : Program) (w : World) (base : Nat) (held : Bool) : ∀ s : Shape, FF en P w base held s
  | .int k => by
    refine ⟨fun t ht _ n cs x _ h => ?_, fun l off cs xs h _ _ _ _ => by unfold isR at h; cases h⟩
    unfold isT at ht
    split at ht
    · rename_i k' hu
      obtain rfl : k = k' := by simpa using ht
      obtain ⟨m, e, ex, _⟩ := DataW.trod_int hu h
      rw [e, ex]; rfl
    · cases ht
  | .bool => ⟨fun _ _ h => (by cases h), fun _ _ _ _ h => (by unfold isR at h; cases h)⟩
  | .slice _ => ⟨fun _ _ h => (by cases h), fun _ _ _ _ h => (by unfold isR at h; cases h)⟩
  | .agg r => by
    refine ⟨fun t ht hf n cs x hl h => ?_, fun l off cs xs h _ _ _ _ => by unfold isR at h; cases h⟩
    unfold isT at ht
    simp only [Bool.and_eq_true, beq_iff_eq] at ht
    obtain ⟨hc, ht⟩ := ht
    have ih := (ff en P w base held r).2
    split at ht
    · rename_i fs hu
      obtain ⟨xs, m, _, e, _, hlen, hg⟩ := DataW.trod_struct hu h
      have := ih _ 0 cs xs ht hf (by rw [hl]; simp [Shape.size]) (by simpa using hlen) (fun i p hp => by
        simp only [List.getElem?_map, Option.map_eq_some_iff] at hp
        obtain ⟨f, hf1, rfl⟩ := hp
        exact ⟨m, hg i f (by simpa using hf1)⟩)
      rw [e]; simpa [flatD] using this
    · rename_i k e hu
      obtain ⟨xs, m, _, ex, _, hlen, hg⟩ := DataW.trod_array hu h
      have := ih _ 0 cs xs ht hf (by rw [hl]; simp [Shape.size]) (by simpa using hlen) (fun i p hp => by
        simp only [List.getElem?_map, Option.map_eq_some_iff] at hp
        obtain ⟨j, hj, rfl⟩ := hp
        obtain ⟨hi, e2⟩ := List.getElem?_eq_some_iff.1 hj
        simp only [List.getElem_range] at e2
        subst e2
        exact ⟨m, hg i (by simpa using hi)⟩)
      rw [ex]; simpa [flatD] using this
    · cases ht
  | .nil => by
    refine ⟨fun t ht => (by unfold isT at ht; cases ht), fun l off cs xs h _ hl hx hp => ?_⟩
    have e : cs.drop off = [] := List.drop_eq_nil_of_le (by simp [Shape.size] at hl; omega)
    cases l with
    | nil => cases xs with
      | nil => exact e
      | cons _ _ => simp at hx
    | cons _ _ => unfold isR at h; cases h
  | .cons s r => by
    refine ⟨fun t ht => (by unfold isT at ht; cases ht), fun l off cs xs h hf hl hx hp => ?_⟩
    cases l with
    | nil => unfold isR at h; cases h
    | cons p l =>
      cases xs with
      | nil => simp at hx
      | cons x xs =>
      obtain ⟨o, t⟩ := p
      unfold isR at h
      simp only [Bool.and_eq_true, beq_iff_eq] at h
      obtain ⟨⟨⟨rfl, hc⟩, hs⟩, hr⟩ := h
      simp only [Shape.flat, Bool.and_eq_true] at hf
      obtain ⟨n, hx0⟩ := hp 0 (o, t) rfl
      simp only [Shape.size] at hl
      rw [hc] at hx0
      have h1 := (ff en P w base held s).1 t hs hf.1 n _ x (by rw [List.length_take, List.length_drop]; omega) hx0
      have h2 := (ff en P w base held r).2 l (o + s.size) cs xs hr hf.2 (by omega) (by simpa using hx) (fun i p hp' => hp (i + 1) p hp')
      show cs.drop o = flatD x.1 ++ flatD.flatDs (xs.map (·.1))
      rw [← h1, ← h2, ← List.drop_drop, List.take_append_drop]
end

section
variable {P : Program} {w : World}
theorem mem_look {laid : List (String × DataW Unit)} {name : String} {d : DataW Unit} (hm : laid.lookup name = some d) : (name, d) ∈ laid := by
  induction laid with
  | nil => cases hm
  | cons x r ih =>
    obtain ⟨n, d'⟩ := x
    rw [List.lookup_cons] at hm
    split at hm
    · rename_i e
      cases hm
      have : name = n := by simpa using e
      rw [this]; exact List.mem_cons_self
    · exact List.mem_cons_of_mem _ (ih hm)
theorem laid_at {laid : List (String × DataW Unit)} : ∀ {ps : List MemPlace}, DataW.LaidVars P w laid ps → ∀ {name : String} {d : DataW Unit} {g t : Nat} {s : Shape}, (name, d) ∈ laid → P.globalNamed name = some g → (P.globals[g]?).map (·.type) = some t → isT P s t = true → s.flat = true → P.cellsOf t = s.size → (∀ (fuel : Nat) (cs : List Value) x, DataW.trod (fun _ => ()) P w 0 (fun _ => true) false fuel t cs = some x → cs.length = P.cellsOf t) → 0 < w.heap.size ∧ ∀ i v, (flatD d)[i]? = some v → Heap.at w.heap g i = some v := by
  induction laid with
  | nil => intro ps _ name d g t s hm; cases hm
  | cons x r ih =>
    intro ps h name d g t s hm hg ht hs hf hc hlen
    obtain ⟨n, d'⟩ := x
    obtain ⟨g', t', cs, fuel, p, q, h1, h2, h3, h4, h5, _⟩ := h
    rcases List.mem_cons.1 hm with e | hm
    · cases e
      obtain rfl := Option.some.inj (hg.symm.trans h1)
      obtain rfl := Option.some.inj (ht.symm.trans h2)
      have e := (ff (fun _ => ()) P w 0 false s).1 t hs hf fuel _ _ ((hlen _ _ _ h4).trans hc) h4
      simp only at e
      rw [← e]
      simp only [World.var?, hg, Option.bind_some] at h3
      split at h3
      · rename_i c t f hw
        cases h3
        refine ⟨?_, fun i v hv => ?_⟩
        · have := (Array.getElem?_eq_some_iff.1 hw).1; omega
        · unfold Heap.at; rw [hw]; simpa using hv
      · cases h3
    · exact ih h5 hm hg ht hs hf hc hlen
theorem laid_cells {laid : List (String × DataW Unit)} {name : String} {d : DataW Unit} {g t : Nat} {s : Shape} (h : laidMetH P laid w) (hp : (laid.all fun x => x.2.handleName?.isNone) = true) (hm : laid.lookup name = some d) (hg : P.globalNamed name = some g) (ht : (P.globals[g]?).map (·.type) = some t) (hs : isT P (.agg s) t = true) (hf : s.flat = true) : 0 < w.heap.size ∧ ∀ i v, (flatD d)[i]? = some v → Heap.at w.heap g i = some v := by
  rw [MakeChecks.laidMetH_plain _ _ _ hp] at h
  obtain ⟨ps, hl, _⟩ := h
  have hc : P.cellsOf t = s.size := by
    unfold isT at hs
    simp only [Bool.and_eq_true, beq_iff_eq] at hs
    exact hs.1
  have hm' : (name, d) ∈ laid := mem_look hm
  refine laid_at hl hm' hg ht hs hf hc (fun fuel cs x hx => ?_)
  unfold isT at hs
  simp only [Bool.and_eq_true] at hs
  have ht2 := hs.2
  split at ht2
  · rename_i fs hu; obtain ⟨_, _, _, _, e, _⟩ := DataW.trod_struct hu hx; exact e
  · rename_i k e hu; obtain ⟨_, _, _, _, e, _⟩ := DataW.trod_array hu hx; exact e
  · cases ht2
end
end Go.HW


end

section
/- The shallow reading of one function, and that the function does it. Written by a program. -/
set_option linter.unusedVariables false
namespace Go.Proofs.YtmhhjpfkipficaaDoor
open Go Go.HW _root_.Go.Proofs.Tryd

def wide_Width_S (x0 : Value) (h : Heap) (R : Value → Heap → Prop) : Prop :=
  sLt x0 (.int .i32 32) fun x5 =>
  sOr x5 (fun k_1 =>
  sGe x0 (.int .i32 127) fun x8 =>
  sAnd x8 (fun k_2 =>
  sLt x0 (.int .i32 160) fun x11 =>
  k_2 x11) fun x12 =>
  k_1 x12) fun x13 =>
  sOr x13 (fun k =>
  sGt x0 (.int .i32 1114111) fun x16 =>
  k x16) fun x17 =>
  sIf x17 (R (.int .i64 (-1)) h) (sSlA (.pointer (some ⟨0, 0, none⟩)) none none 9 2 fun x19 =>
  wide_in_c x19 x0 h fun x21 h => 
  sIf x21 (R (.int .i64 0) h) (sSlA (.pointer (some ⟨1, 0, none⟩)) none none 14 2 fun x23 =>
  wide_in_c x23 x0 h fun x25 h_1 => 
  sIf x25 (R (.int .i64 2) h_1) (R (.int .i64 1) h_1)))
set_option maxRecDepth 100000 in
theorem wide_Width_runs {x0 : Value} {h : Heap} {R : Value → Heap → Prop} (H : wide_Width_S x0 h R) : wide_Width_c x0 h R := by
 unfold wide_Width_S at H
 refine runsof (b := (mk (Ap [x0] 25))) call29 func29 rfl fun w0 HA => wp_seq (lwp_list ?_)
 refine lsassign (.int .i64 0) <| ls_nil (then_normal ?_)
 refine freq (mk (Ap [x0,ud,(.int .i64 0)] 23)) <| wp_seq <| wp_block <| wp_seq (lwp_list ?_)
 refine lsmove x0 <| lsp 5 (psLt H) fun x5 H => lsmove x5 <| ls_or [(),(),(),(),(),(),()] (fun K a w => ∃ (D : Nat → Value) (x13 : Value),a = (mk ([x0,ud,(.int .i64 0),ud,x0,x5,x5] ++ (Ad D 0 6 (Ap [x13] 12)))) ∧ At w0 w h ∧ K x13) H (fun hb_1 H => ?_) (fun hb_1 H => ?_) ?_
 ·refine lsmove (hg := by rw [hb_1]; kernel_rfl) x0 <| lsp (hg := by rw [hb_1]; kernel_rfl) 8 (psGe H) fun x8 H => lsmove (hg := by rw [hb_1]; kernel_rfl) x8 <| ls_and [(),(),()] (fun K a w => ∃ (D_2 : Nat → Value) (x12 : Value),a = (mk (Ap [x0,ud,(.int .i64 0),ud,x0,x5,x5,x0,x8,x8,(D_2 0),(D_2 1),x12] 13)) ∧ At w0 w h ∧ K x12) H (fun hb_2 H => ?_) (fun hb_2 H => ?_) ?_
  ·refine lsmove (hg := by rw [hb_2]; kernel_rfl) x0 <| lsp (hg := by rw [hb_2]; kernel_rfl) 11 (psLt H) fun x11 H => lspickt (hg := by rw [hb_1]; kernel_rfl) x11 (by rw [hb_2]; kernel_rfl) <| ls_nil (then_normal ?_)
   exact ⟨(gd ([x0,x11])),x11,by kernel_rfl,HA,H⟩
  ·refine lsskip (hg := by rw [hb_2]; kernel_rfl) 10 <| lsskip (hg := by rw [hb_2]; kernel_rfl) 11 <| lspickf (hg := by rw [hb_1]; kernel_rfl) (.bool false) (by rw [hb_2]; kernel_rfl) <| ls_nil (then_normal ?_)
   exact ⟨(gd ([ud,ud])),(.bool false),by kernel_rfl,HA,H⟩
  ·rintro _ w_4 ⟨D_2,x12,rfl,HA_4,H⟩
   refine lspickf x12 (by rw [hb_1]; kernel_rfl) <| ls_nil (then_normal ?_)
   exact ⟨(gd ([x0,x8,x8,(D_2 0),(D_2 1),x12])),x12,by kernel_rfl,HA_4,H⟩
 ·refine lsskip (hg := by rw [hb_1]; kernel_rfl) 7 <| lsskip (hg := by rw [hb_1]; kernel_rfl) 8 <| lsskip (hg := by rw [hb_1]; kernel_rfl) 9 <| lsskip 10 <| lsskip 11 <| lsskip (hg := by rw [hb_1]; kernel_rfl) 12 <| lspickt (.bool true) (by rw [hb_1]; kernel_rfl) <| ls_nil (then_normal ?_)
  exact ⟨(gd (Ap [] 6)),(.bool true),by kernel_rfl,HA,H⟩
 ·rintro _ w ⟨D,x13,rfl,HA,H⟩
  refine lsmove x13 <| ls_or [(),(),()] (fun K a w => ∃ (D_1 : Nat → Value) (x17 : Value),a = (mk ([x0,ud,(.int .i64 0),ud,x0,x5,x5] ++ (Ad D 0 6 (Ap [x13,x13,(D_1 0),(D_1 1),x17] 8)))) ∧ At w0 w h ∧ K x17) H (fun hb H => ?_) (fun hb H => ?_) ?_
  ·refine lsmove (hg := by rw [hb]; kernel_rfl) x0 <| lsp (hg := by rw [hb]; kernel_rfl) 16 (psGt H) fun x16 H => lspickf x16 (by rw [hb]; kernel_rfl) <| ls_nil (then_normal ?_)
   exact ⟨(gd ([x0,x16])),x16,by kernel_rfl,HA,H⟩
  ·refine lsskip (hg := by rw [hb]; kernel_rfl) 15 <| lsskip (hg := by rw [hb]; kernel_rfl) 16 <| lspickt (.bool true) (by rw [hb]; kernel_rfl) <| ls_nil (then_normal ?_)
   exact ⟨(gd ([ud,ud])),(.bool true),by kernel_rfl,HA,H⟩
  ·rintro _ w_1 ⟨D_1,x17,rfl,HA_1,H⟩
   refine lsassign x17 <| ls_nil (then_normal ?_)
   refine freq (mk ([x0,ud,(.int .i64 0),x17,x0,x5,x5] ++ (Ad D 0 6 (Ap [x13,x13,(D_1 0),(D_1 1),x17] 8)))) <| wp_if rfl H (fun H => ?_) (fun H => ?_)
   ·refine wp_seq (lwp_list ?_)
    refine lsassign (.int .i64 (-1)) <| ls_nil (then_normal ?_)
    refine freq (mk ([x0,ud,(.int .i64 (-1)),x17,x0,x5,x5] ++ (Ad D 0 6 (Ap [x13,x13,(D_1 0),(D_1 1),x17] 8)))) <| wp_ret <| block_ret <| then_ret <| end1 (results29) (by kernel_rfl) (by kernel_rfl) HA_1 H _ (.inr rfl)
   ·refine wp_seq (lwp_list ?_)
    refine lsp 19 (psla underlying94 sizeOf93 H) fun x19 H => lsmove x0 <| lsd 21 HA_1 (dcall H) fun x21 h w_2 H HA_2 => lsassign x21 <| ls_nil (then_normal ?_)
    refine freq (mk ([x0,ud,(.int .i64 0),x17,x0,x5,x5] ++ (Ad D 0 6 (Ap [x13,x13,(D_1 0),(D_1 1),x17,x21,x19,x0,x21] 4)))) <| wp_if rfl H (fun H => ?_) (fun H => ?_)
    ·refine wp_seq (lwp_list ?_)
     refine lsassign (.int .i64 0) <| ls_nil (then_normal ?_)
     refine freq (mk ([x0,ud,(.int .i64 0),x17,x0,x5,x5] ++ (Ad D 0 6 (Ap [x13,x13,(D_1 0),(D_1 1),x17,x21,x19,x0,x21] 4)))) <| wp_ret <| block_ret <| then_ret <| end1 (results29) (by kernel_rfl) (by kernel_rfl) HA_2 H _ (.inr rfl)
    ·refine wp_seq (lwp_list ?_)
     refine lsp 23 (psla underlying95 sizeOf93 H) fun x23 H => lsmove x0 <| lsd 25 HA_2 (dcall H) fun x25 h_1 w_3 H HA_3 => lsassign x25 <| ls_nil (then_normal ?_)
     refine freq (mk ([x0,ud,(.int .i64 0),x17,x0,x5,x5] ++ (Ad D 0 6 [x13,x13,(D_1 0),(D_1 1),x17,x21,x19,x0,x21,x25,x23,x0,x25]))) <| wp_if rfl H (fun H => ?_) (fun H => ?_)
     ·refine wp_seq (lwp_list ?_)
      refine lsassign (.int .i64 2) <| ls_nil (then_normal ?_)
      refine freq (mk ([x0,ud,(.int .i64 2),x17,x0,x5,x5] ++ (Ad D 0 6 [x13,x13,(D_1 0),(D_1 1),x17,x21,x19,x0,x21,x25,x23,x0,x25]))) <| wp_ret <| block_ret <| then_ret <| end1 (results29) (by kernel_rfl) (by kernel_rfl) HA_3 H _ (.inr rfl)
     ·refine wp_skip <| block_normal <| then_normal <| freq (mk ([x0,ud,(.int .i64 0),x17,x0,x5,x5] ++ (Ad D 0 6 [x13,x13,(D_1 0),(D_1 1),x17,x21,x19,x0,x21,x25,x23,x0,x25]))) <| wp_seq (lwp_list ?_)
      refine lsassign (.int .i64 1) <| ls_nil (then_normal ?_)
      refine freq (mk ([x0,ud,(.int .i64 1),x17,x0,x5,x5] ++ (Ad D 0 6 [x13,x13,(D_1 0),(D_1 1),x17,x21,x19,x0,x21,x25,x23,x0,x25]))) <| wp_ret <| end1 (results29) (by kernel_rfl) (by kernel_rfl) HA_3 H _ (.inr rfl)

end Go.Proofs.YtmhhjpfkipficaaDoor


end

section
/- The shallow reading of one function, and that the function does it. Written by a program. -/
set_option linter.unusedVariables false
namespace Go.Proofs.YtmhhjpfkipficaaDoor
open Go Go.HW _root_.Go.Proofs.Tryd

def wide_in_S (x0 x1 : Value) (h : Heap) (R : Value → Heap → Prop) : Prop :=
  slices_BinarySearchFunc_wide_row_wide_row_rune_c x0 x1 (.func (.func 96) #[] #[]) h fun x10 h => 
  sTup x10 0 fun x11 =>
  sTup x10 1 fun x12 =>
  R x12 h
set_option maxRecDepth 100000 in
theorem wide_in_runs {x0 x1 : Value} {h : Heap} {R : Value → Heap → Prop} (H : wide_in_S x0 x1 h R) : wide_in_c x0 x1 h R := by
 unfold wide_in_S at H
 refine runsof (b := (mk (Ap [x0,x1] 12))) call76 func76 rfl fun w0 HA => wp_seq (lwp_list ?_)
 refine lsassign (.bool false) <| ls_nil (then_normal ?_)
 refine freq (mk (Ap [x0,x1,ud,ud,(.bool false)] 9)) <| wp_seq (lwp_list ?_)
 refine lsmove x0 <| lsmove x1 <| lsd 10 HA (dcall H) fun x10 h w H HA => lsmove x10 <| lsp 11 (ptup H) fun x11 H => lsp 12 (ptup H) fun x12 H => lsassign x11 <| lsassign x12 <| ls_nil (then_normal ?_)
 refine freq (mk [x0,x1,ud,ud,(.bool false),x11,x12,x10,x0,x1,x10,x11,x12,ud]) <| wp_seq (lwp_list ?_)
 refine lsmove x12 <| lsassign x12 <| ls_nil (then_normal ?_)
 refine freq (mk [x0,x1,ud,ud,x12,x11,x12,x10,x0,x1,x10,x11,x12,x12]) <| wp_ret <| end1 (results76) (by kernel_rfl) (by kernel_rfl) HA H _ (.inr rfl)

end Go.Proofs.YtmhhjpfkipficaaDoor


end

section
/- The shallow reading of one function, and that the function does it. Written by a program. -/
set_option linter.unusedVariables false
namespace Go.Proofs.YtmhhjpfkipficaaDoor
open Go Go.HW _root_.Go.Proofs.Tryd

def wide_in_1_S (x0 x1 : Value) (h : Heap) (R : Value → Heap → Prop) : Prop :=
  sBox h x0 93 fun x2 h => 
  sOff x2 1 fun x6 =>
  sLd h x6 fun x7 =>
  sLt x7 x1 fun x9 =>
  sIf x9 (R (.int .i64 (-1)) h) (sOff x2 0 fun x11 =>
  sLd h x11 fun x12 =>
  sGt x12 x1 fun x14 =>
  sIf x14 (R (.int .i64 1) h) (R (.int .i64 0) h))
set_option maxRecDepth 100000 in
theorem wide_in_1_runs {x0 x1 : Value} {h : Heap} {R : Value → Heap → Prop} (H : wide_in_1_S x0 x1 h R) : wide_in_1_c x0 x1 h R := by
 unfold wide_in_1_S at H
 refine runsof (b := (mk (Ap [x0,x1] 13))) call96 func96 rfl fun w0 HA => wp_seq (lwp_list ?_)
 refine lsd 2 HA (dbox H) fun x2 h w H HA => lsassign (.int .i64 0) <| ls_nil (then_normal ?_)
 refine freq (mk (Ap [x0,x1,x2,ud,(.int .i64 0)] 10)) <| wp_seq <| wp_block <| wp_seq (lwp_list ?_)
 refine lsp 6 (poff underlying93 rfl sizeOf21 rfl H) fun x6 H => lsy 7 HA (yld isAgg21 H) fun x7 H => lsmove x1 <| lsp 9 (psLt H) fun x9 H => lsassign x9 <| ls_nil (then_normal ?_)
 refine freq (mk (Ap [x0,x1,x2,ud,(.int .i64 0),x9,x6,x7,x1,x9] 5)) <| wp_if rfl H (fun H => ?_) (fun H => ?_)
 ·refine wp_seq (lwp_list ?_)
  refine lsassign (.int .i64 (-1)) <| ls_nil (then_normal ?_)
  refine freq (mk (Ap [x0,x1,x2,ud,(.int .i64 (-1)),x9,x6,x7,x1,x9] 5)) <| wp_ret <| block_ret <| then_ret <| end1 (results96) (by kernel_rfl) (by kernel_rfl) HA H _ (.inr rfl)
 ·refine wp_seq (lwp_list ?_)
  refine lsp 11 (poff underlying93 rfl sizeOf21 rfl H) fun x11 H => lsy 12 HA (yld isAgg21 H) fun x12 H => lsmove x1 <| lsp 14 (psGt H) fun x14 H => lsassign x14 <| ls_nil (then_normal ?_)
  refine freq (mk [x0,x1,x2,ud,(.int .i64 0),x9,x6,x7,x1,x9,x14,x11,x12,x1,x14]) <| wp_if rfl H (fun H => ?_) (fun H => ?_)
  ·refine wp_seq (lwp_list ?_)
   refine lsassign (.int .i64 1) <| ls_nil (then_normal ?_)
   refine freq (mk [x0,x1,x2,ud,(.int .i64 1),x9,x6,x7,x1,x9,x14,x11,x12,x1,x14]) <| wp_ret <| block_ret <| then_ret <| end1 (results96) (by kernel_rfl) (by kernel_rfl) HA H _ (.inr rfl)
  ·refine wp_skip <| block_normal <| then_normal <| freq (mk [x0,x1,x2,ud,(.int .i64 0),x9,x6,x7,x1,x9,x14,x11,x12,x1,x14]) <| wp_seq (lwp_list ?_)
   refine lsassign (.int .i64 0) <| ls_nil (then_normal ?_)
   refine freq (mk [x0,x1,x2,ud,(.int .i64 0),x9,x6,x7,x1,x9,x14,x11,x12,x1,x14]) <| wp_ret <| end1 (results96) (by kernel_rfl) (by kernel_rfl) HA H _ (.inr rfl)

end Go.Proofs.YtmhhjpfkipficaaDoor


end

section
/- The shallow reading of one function, and that the function does it. Written by a program. -/
set_option linter.unusedVariables false
namespace Go.Proofs.YtmhhjpfkipficaaDoor
open Go Go.HW _root_.Go.Proofs.Tryd

def slices_BinarySearchFunc_wide_row_wide_row_rune_l1 (R : Value → Heap → Prop) (x0 x1 x2 x13 : Value) (next : Value → Value → Heap → Prop) (x9 x10 : Value) (h : Heap) : Prop :=
  sLt x9 x10 fun x17 =>
  sIf x17 (sAdd .i64 x9 x10 fun x20 =>
  sConv .u64 x20 fun x21 =>
  sShr .u64 x21 (.int .u64 1) fun x22 =>
  sConv .i64 x22 fun x23 =>
  sIxS x0 x23 2 fun x27 =>
  sLdN h x27 2 fun x28 =>
  sCallV Tryd.prog x2 #[x28, x1] h fun x30 h_1 => 
  sLt x30 (.int .i64 0) fun x31 =>
  sIf x31 (sAdd .i64 x23 (.int .i64 1) fun x33 =>
  next x33 x10 h_1) (next x9 x23 h_1)) (sLt x9 x13 fun x38 =>
  sAndH x38 h (fun k =>
  sIxS x0 x9 2 fun x43 =>
  sLdN h x43 2 fun x44 =>
  sCallV Tryd.prog x2 #[x44, x1] h fun x46 h_3 => 
  sEq x46 (.int .i64 0) fun x47 =>
  k x47 h_3) fun x48 h_2 =>
  R (.tuple #[x9, x48]) h_2)
def slices_BinarySearchFunc_wide_row_wide_row_rune_S (x0 x1 x2 : Value) (h : Heap) (R : Value → Heap → Prop) : Prop :=
  sLen x0 fun x13 =>
  sLoop (S := Value × Value) (fun nxt s h => slices_BinarySearchFunc_wide_row_wide_row_rune_l1 R x0 x1 x2 x13 (fun x9' x10' h => nxt (x9', x10') h) s.1 s.2 h) ((.int .i64 0), x13) h
set_option maxRecDepth 100000 in
theorem slices_BinarySearchFunc_wide_row_wide_row_rune_runs {x0 x1 x2 : Value} {h : Heap} {R : Value → Heap → Prop} (H : slices_BinarySearchFunc_wide_row_wide_row_rune_S x0 x1 x2 h R) : slices_BinarySearchFunc_wide_row_wide_row_rune_c x0 x1 x2 h R := by
 unfold slices_BinarySearchFunc_wide_row_wide_row_rune_S at H
 refine runsof (b := ⟨#[x0,x1,x2,ud,ud,ud,ud,ud,ud,ud,ud,ud,ud,ud,ud,ud,ud,ud,ud,ud,ud,ud,ud,ud,ud,ud,ud,ud,ud,ud,ud,ud,ud,ud,ud,ud,ud,ud,ud,ud,ud,ud,ud,ud,ud,ud,ud,ud,ud], []⟩) call95 func95 rfl fun w0 HA => wp_seq (lwp_list ?_)
 refine lsassign (.int .i64 0) <| lsassign (.bool false) <| ls_nil (then_normal ?_)
 refine freq ⟨#[x0,x1,x2,ud,ud,ud,(.int .i64 0),(.bool false),ud,ud,ud,ud,ud,ud,ud,ud,ud,ud,ud,ud,ud,ud,ud,ud,ud,ud,ud,ud,ud,ud,ud,ud,ud,ud,ud,ud,ud,ud,ud,ud,ud,ud,ud,ud,ud,ud,ud,ud,ud], []⟩ <| wp_seq (lwp_list ?_)
 refine lsmove x0 <| lsp 13 (plen underlying91 H) fun x13 H => lsassign x13 <| ls_nil (then_normal ?_)
 refine freq ⟨#[x0,x1,x2,ud,ud,ud,(.int .i64 0),(.bool false),x13,ud,ud,ud,x0,x13,ud,ud,ud,ud,ud,ud,ud,ud,ud,ud,ud,ud,ud,ud,ud,ud,ud,ud,ud,ud,ud,ud,ud,ud,ud,ud,ud,ud,ud,ud,ud,ud,ud,ud,ud], []⟩ <| wp_seq (lwp_list ?_)
 refine lsmove x13 <| lsassign (.int .i64 0) <| lsassign x13 <| ls_nil (then_normal ?_)
 refine freq ⟨#[x0,x1,x2,ud,ud,ud,(.int .i64 0),(.bool false),x13,(.int .i64 0),x13,ud,x0,x13,x13,ud,ud,ud,ud,ud,ud,ud,ud,ud,ud,ud,ud,ud,ud,ud,ud,ud,ud,ud,ud,ud,ud,ud,ud,ud,ud,ud,ud,ud,ud,ud,ud,ud,ud], []⟩ <| wp_seq <| wp_block ?_
 obtain ⟨I,m,H0,HB⟩ := H
 refine wp_loop (fun a w => ∃ (D : Nat → Value) (x9 x10 : Value) (h : Heap),a = ⟨#[x0,x1,x2,ud,ud,ud,(.int .i64 0),(.bool false),x13,x9,x10,(D 0),x0,x13,x13,(D 1),(D 2),(D 3),(D 4),(D 5),(D 6),(D 7),(D 8),(D 9),(D 10),(D 11),(D 12),(D 13),(D 14),(D 15),(D 16),(D 17),(D 18),(D 19),(D 20),ud,ud,ud,ud,ud,ud,ud,ud,ud,ud,ud,ud,ud,ud], []⟩ ∧ At w0 w h ∧ I (x9,x10) h) (fun a w => m ((a.tmps.getD 9 ud),(a.tmps.getD 10 ud)) w.heap) ?_ ?_
 ·exact ⟨(gd (Ap [] 21)),(.int .i64 0),x13,h,by kernel_rfl,HA,H0⟩
 ·rintro _ w ⟨D,x9,x10,h,rfl,HA,HI⟩
  have H : slices_BinarySearchFunc_wide_row_wide_row_rune_l1 R x0 x1 x2 x13 (fun x9' x10' h' => I (x9', x10') h' ∧ m (x9', x10') h' < m (x9,x10) h) x9 x10 h := HB (x9,x10) h HI
  clear HB H0 HI
  unfold slices_BinarySearchFunc_wide_row_wide_row_rune_l1 at H
  refine wp_seq <| wp_seq (lwp_list ?_)
  refine lsmove x9 <| lsmove x10 <| lsp 17 (psLt H) fun x17 H => ls_nil (then_normal ?_)
  refine freq ⟨#[x0,x1,x2,ud,ud,ud,(.int .i64 0),(.bool false),x13,x9,x10,(D 0),x0,x13,x13,x9,x10,x17,(D 4),(D 5),(D 6),(D 7),(D 8),(D 9),(D 10),(D 11),(D 12),(D 13),(D 14),(D 15),(D 16),(D 17),(D 18),(D 19),(D 20),ud,ud,ud,ud,ud,ud,ud,ud,ud,ud,ud,ud,ud,ud], []⟩ <| wp_if rfl H (fun H => ?_) (fun H => ?_)
  ·refine wp_skip <| then_normal <| freq ⟨#[x0,x1,x2,ud,ud,ud,(.int .i64 0),(.bool false),x13,x9,x10,(D 0),x0,x13,x13,x9,x10,x17,(D 4),(D 5),(D 6),(D 7),(D 8),(D 9),(D 10),(D 11),(D 12),(D 13),(D 14),(D 15),(D 16),(D 17),(D 18),(D 19),(D 20),ud,ud,ud,ud,ud,ud,ud,ud,ud,ud,ud,ud,ud,ud], []⟩ <| wp_block <| wp_seq (lwp_list ?_)
   refine lsmove x9 <| lsmove x10 <| lsp 20 (padd H) fun x20 H => lsp 21 (pconv underlying3 underlying111 H) fun x21 H => lsp 22 (p_shr (by kernel_rfl) (by kernel_rfl) H) fun x22 H => lsp 23 (pconv underlying111 underlying3 H) fun x23 H => lsassign x23 <| ls_nil (then_normal ?_)
   refine freq ⟨#[x0,x1,x2,ud,ud,ud,(.int .i64 0),(.bool false),x13,x9,x10,x23,x0,x13,x13,x9,x10,x17,x9,x10,x20,x21,x22,x23,(D 10),(D 11),(D 12),(D 13),(D 14),(D 15),(D 16),(D 17),(D 18),(D 19),(D 20),ud,ud,ud,ud,ud,ud,ud,ud,ud,ud,ud,ud,ud,ud], []⟩ <| wp_seq (lwp_list ?_)
   refine lsmove x2 <| lsmove x0 <| lsmove x23 <| lsp 27 (pixs underlying91 sizeOf93 H) fun x27 H => lsy 28 HA (yldn isAgg93 sizeOf93 H) fun x28 H => lsmove x1 <| lsd 30 HA (d_callx (by kernel_rfl) (by kernel_rfl) H) fun x30 h_1 w_1 H HA_1 => lsp 31 (psLt H) fun x31 H => ls_nil (then_normal ?_)
   refine freq ⟨#[x0,x1,x2,ud,ud,ud,(.int .i64 0),(.bool false),x13,x9,x10,x23,x0,x13,x13,x9,x10,x17,x9,x10,x20,x21,x22,x23,x2,x0,x23,x27,x28,x1,x30,x31,(D 18),(D 19),(D 20),ud,ud,ud,ud,ud,ud,ud,ud,ud,ud,ud,ud,ud,ud], []⟩ <| wp_if rfl H (fun H => ?_) (fun H => ?_)
   ·refine lwp_list <| lsmove x23 <| lsp 33 (padd H) fun x33 H => lsassign x33 <| ls_nil <| block_normal <| ⟨⟨(gd ([x23,x9,x10,x17,x9,x10,x20,x21,x22,x23,x2,x0,x23,x27,x28,x1,x30,x31,x23,x33,(D 20)])),x33,x10,h_1,by kernel_rfl,HA_1,H.1⟩, loop_lt HA_1.heap HA.heap (by kernel_rfl) (by kernel_rfl) H.2⟩
   ·refine lwp_list <| lsmove x23 <| lsassign x23 <| ls_nil <| block_normal <| ⟨⟨(gd ([x23,x9,x10,x17,x9,x10,x20,x21,x22,x23,x2,x0,x23,x27,x28,x1,x30,x31,(D 18),(D 19),x23])),x9,x23,h_1,by kernel_rfl,HA_1,H.1⟩, loop_lt HA_1.heap HA.heap (by kernel_rfl) (by kernel_rfl) H.2⟩
  ·refine wp_exit <| then_exit <| then_exit <| block_exit <| then_normal <| freq ⟨#[x0,x1,x2,ud,ud,ud,(.int .i64 0),(.bool false),x13,x9,x10,(D 0),x0,x13,x13,x9,x10,x17,(D 4),(D 5),(D 6),(D 7),(D 8),(D 9),(D 10),(D 11),(D 12),(D 13),(D 14),(D 15),(D 16),(D 17),(D 18),(D 19),(D 20),ud,ud,ud,ud,ud,ud,ud,ud,ud,ud,ud,ud,ud,ud], []⟩ <| wp_seq (lwp_list ?_)
   refine lsmove x9 <| lsmove x9 <| lsmove x13 <| lsp 38 (psLt H) fun x38 H => lsmove x38 <| ls_andh [(),(),(),(),(),(),(),(),()] (fun K a w => ∃ (D_1 : Nat → Value) (x48 : Value) (h_2 : Heap),a = ⟨#[x0,x1,x2,ud,ud,ud,(.int .i64 0),(.bool false),x13,x9,x10,(D 0),x0,x13,x13,x9,x10,x17,(D 4),(D 5),(D 6),(D 7),(D 8),(D 9),(D 10),(D 11),(D 12),(D 13),(D 14),(D 15),(D 16),(D 17),(D 18),(D 19),(D 20),x9,x9,x13,x38,x38,(D_1 0),(D_1 1),(D_1 2),(D_1 3),(D_1 4),(D_1 5),(D_1 6),(D_1 7),x48], []⟩ ∧ At w0 w h_2 ∧ K x48 h_2) H (fun hb H => ?_) (fun hb H => ?_) ?_
   ·refine lsmove (hg := by rw [hb]; kernel_rfl) x2 <| lsmove (hg := by rw [hb]; kernel_rfl) x0 <| lsmove (hg := by rw [hb]; kernel_rfl) x9 <| lsp (hg := by rw [hb]; kernel_rfl) 43 (pixs underlying91 sizeOf93 H) fun x43 H => lsy (hg := by rw [hb]; kernel_rfl) 44 HA (yldn isAgg93 sizeOf93 H) fun x44 H => lsmove (hg := by rw [hb]; kernel_rfl) x1 <| lsd (hg := by rw [hb]; kernel_rfl) 46 HA (d_callx (by kernel_rfl) (by kernel_rfl) H) fun x46 h_3 w_3 H HA_3 => lsp (hg := by rw [hb]; kernel_rfl) 47 (psEq H) fun x47 H => lspickt x47 (by rw [hb]; kernel_rfl) <| ls_nil (then_normal ?_)
    exact ⟨(gd ([x2,x0,x9,x43,x44,x1,x46,x47])),x47,h_3,by kernel_rfl,HA_3,H⟩
   ·refine lsskip (hg := by rw [hb]; kernel_rfl) 40 <| lsskip (hg := by rw [hb]; kernel_rfl) 41 <| lsskip (hg := by rw [hb]; kernel_rfl) 42 <| lsskip (hg := by rw [hb]; kernel_rfl) 43 <| lsskip (hg := by rw [hb]; kernel_rfl) 44 <| lsskip (hg := by rw [hb]; kernel_rfl) 45 <| lsskip (hg := by rw [hb]; kernel_rfl) 46 <| lsskip (hg := by rw [hb]; kernel_rfl) 47 <| lspickf (.bool false) (by rw [hb]; kernel_rfl) <| ls_nil (then_normal ?_)
    exact ⟨(gd (Ap [] 8)),(.bool false),h,by kernel_rfl,HA,H⟩
   ·rintro _ w_2 ⟨D_1,x48,h_2,rfl,HA_2,H⟩
    refine lsassign x9 <| lsassign x48 <| ls_nil (then_normal ?_)
    refine freq ⟨#[x0,x1,x2,ud,ud,ud,x9,x48,x13,x9,x10,(D 0),x0,x13,x13,x9,x10,x17,(D 4),(D 5),(D 6),(D 7),(D 8),(D 9),(D 10),(D 11),(D 12),(D 13),(D 14),(D 15),(D 16),(D 17),(D 18),(D 19),(D 20),x9,x9,x13,x38,x38,(D_1 0),(D_1 1),(D_1 2),(D_1 3),(D_1 4),(D_1 5),(D_1 6),(D_1 7),x48], []⟩ <| wp_ret <| end2 (results95) (by kernel_rfl) (by kernel_rfl) (by kernel_rfl) HA_2 H _ (.inr rfl)

end Go.Proofs.YtmhhjpfkipficaaDoor


end

section
/- The shallow reading of one function, and that the function does it. Written by a program. -/
set_option linter.unusedVariables false
namespace Go.Proofs.YtmhhjpfkipficaaDoor
open Go Go.HW _root_.Go.Proofs.Tryd

def betonyref03_in_l1 (R : Value → Heap → Prop) (x0 x1 : Value) (next : Value → Heap → Prop) (x5 : Value) (h : Heap) : Prop :=
  sAdd .i64 x5 (.int .i64 1) fun x7 =>
  sLen x0 fun x9 =>
  sLt x7 x9 fun x10 =>
  sIf x10 (sIxS x0 x5 1 fun x16 =>
  sLd h x16 fun x17 =>
  sGe x1 x17 fun x18 =>
  sAnd x18 (fun k =>
  sAdd .i64 x5 (.int .i64 1) fun x23 =>
  sIxS x0 x23 1 fun x24 =>
  sLd h x24 fun x25 =>
  sLe x1 x25 fun x26 =>
  k x26) fun x27 =>
  sIf x27 (R (.bool true) h) (sAdd .i64 x5 (.int .i64 2) fun x12 =>
  next x12 h)) (R (.bool false) h)
def betonyref03_in_S (x0 x1 : Value) (h : Heap) (R : Value → Heap → Prop) : Prop :=
  sLoop (S := Value) (fun nxt s h => betonyref03_in_l1 R x0 x1 (fun x5' h => nxt x5' h) s h) (.int .i64 0) h
set_option maxRecDepth 100000 in
theorem betonyref03_in_runs {x0 x1 : Value} {h : Heap} {R : Value → Heap → Prop} (H : betonyref03_in_S x0 x1 h R) : betonyref03_in_c x0 x1 h R := by
 unfold betonyref03_in_S at H
 refine runsof (b := (mk (Ap [x0,x1] 26))) call67 func67 rfl fun w0 HA => wp_seq (lwp_list ?_)
 refine lsassign (.bool false) <| ls_nil (then_normal ?_)
 refine freq (mk (Ap [x0,x1,ud,ud,(.bool false)] 23)) <| wp_seq <| wp_seq (lwp_list ?_)
 refine lsassign (.int .i64 0) <| ls_nil (then_normal ?_)
 refine freq (mk (Ap [x0,x1,ud,ud,(.bool false),(.int .i64 0)] 22)) <| wp_block ?_
 obtain ⟨I,m,H0,HB⟩ := H
 refine wp_loop (fun a w => ∃ (D : Nat → Value) (x5 : Value) (h : Heap),a = (mk ([x0,x1,ud,ud,(D 0),x5] ++ (Ad D 1 22 []))) ∧ At w0 w h ∧ I x5 h) (fun a w => m (a.tmps.getD 5 ud) w.heap) ?_ ?_
 ·exact ⟨(gd (Ap [(.bool false)] 22)),(.int .i64 0),h,by kernel_rfl,HA,H0⟩
 ·rintro _ w ⟨D,x5,h,rfl,HA,HI⟩
  have H : betonyref03_in_l1 R x0 x1 (fun x5' h' => I x5' h' ∧ m x5' h' < m x5 h) x5 h := HB x5 h HI
  clear HB H0 HI
  unfold betonyref03_in_l1 at H
  refine wp_seq <| wp_seq (lwp_list ?_)
  refine lsmove x5 <| lsp 7 (padd H) fun x7 H => lsmove x0 <| lsp 9 (plen underlying80 H) fun x9 H => lsp 10 (psLt H) fun x10 H => ls_nil (then_normal ?_)
  refine freq (mk ([x0,x1,ud,ud,(D 0),x5,x5,x7,x0,x9,x10] ++ (Ad D 6 17 []))) <| wp_if rfl H (fun H => ?_) (fun H => ?_)
  ·refine wp_skip <| then_normal <| freq (mk ([x0,x1,ud,ud,(D 0),x5,x5,x7,x0,x9,x10] ++ (Ad D 6 17 []))) <| wp_seq <| wp_block <| wp_seq (lwp_list ?_)
   refine lsmove x1 <| lsmove x0 <| lsmove x5 <| lsp 16 (pixs underlying80 sizeOf3 H) fun x16 H => lsy 17 HA (yld isAgg3 H) fun x17 H => lsp 18 (psGe H) fun x18 H => lsmove x18 <| ls_and [(),(),(),(),(),(),(),()] (fun K a w => ∃ (D_1 : Nat → Value) (x27 : Value),a = (mk ([x0,x1,ud,ud,(D 0),x5,x5,x7,x0,x9,x10,(D 6),(D 7),x1,x0,x5,x16,x17,x18,x18] ++ (Ad D_1 0 7 [x27]))) ∧ At w0 w h ∧ K x27) H (fun hb H => ?_) (fun hb H => ?_) ?_
   ·refine lsmove (hg := by rw [hb]; kernel_rfl) x1 <| lsmove (hg := by rw [hb]; kernel_rfl) x0 <| lsmove (hg := by rw [hb]; kernel_rfl) x5 <| lsp (hg := by rw [hb]; kernel_rfl) 23 (padd H) fun x23 H => lsp (hg := by rw [hb]; kernel_rfl) 24 (pixs underlying80 sizeOf3 H) fun x24 H => lsy (hg := by rw [hb]; kernel_rfl) 25 HA (yld isAgg3 H) fun x25 H => lsp (hg := by rw [hb]; kernel_rfl) 26 (psLe H) fun x26 H => lspickt x26 (by rw [hb]; kernel_rfl) <| ls_nil (then_normal ?_)
    exact ⟨(gd ([x1,x0,x5,x23,x24,x25,x26])),x26,by kernel_rfl,HA,H⟩
   ·refine lsskip (hg := by rw [hb]; kernel_rfl) 20 <| lsskip (hg := by rw [hb]; kernel_rfl) 21 <| lsskip (hg := by rw [hb]; kernel_rfl) 22 <| lsskip (hg := by rw [hb]; kernel_rfl) 23 <| lsskip (hg := by rw [hb]; kernel_rfl) 24 <| lsskip (hg := by rw [hb]; kernel_rfl) 25 <| lsskip (hg := by rw [hb]; kernel_rfl) 26 <| lspickf (.bool false) (by rw [hb]; kernel_rfl) <| ls_nil (then_normal ?_)
    exact ⟨(gd (Ap [] 7)),(.bool false),by kernel_rfl,HA,H⟩
   ·rintro _ w_1 ⟨D_1,x27,rfl,HA_1,H⟩
    refine ls_nil (then_normal ?_)
    refine freq (mk ([x0,x1,ud,ud,(D 0),x5,x5,x7,x0,x9,x10,(D 6),(D 7),x1,x0,x5,x16,x17,x18,x18] ++ (Ad D_1 0 7 [x27]))) <| wp_if rfl H (fun H => ?_) (fun H => ?_)
    ·refine wp_seq (lwp_list ?_)
     refine lsassign (.bool true) <| ls_nil (then_normal ?_)
     refine freq (mk ([x0,x1,ud,ud,(.bool true),x5,x5,x7,x0,x9,x10,(D 6),(D 7),x1,x0,x5,x16,x17,x18,x18] ++ (Ad D_1 0 7 [x27]))) <| wp_ret <| block_ret <| then_ret <| then_ret <| block_ret <| then_ret <| end1 (results67) (by kernel_rfl) (by kernel_rfl) HA_1 H _ (.inr rfl)
    ·refine wp_skip <| block_normal <| then_normal <| freq (mk ([x0,x1,ud,ud,(D 0),x5,x5,x7,x0,x9,x10,(D 6),(D 7),x1,x0,x5,x16,x17,x18,x18] ++ (Ad D_1 0 7 [x27]))) <| lwp_list <| lsmove x5 <| lsp 12 (padd H) fun x12 H => lsassign x12 <| ls_nil <| ⟨⟨(gd ([(D 0),x5,x7,x0,x9,x10,x5,x12,x1,x0,x5,x16,x17,x18,x18] ++ (Ad D_1 0 7 [x27]))),x12,h,by kernel_rfl,HA_1,H.1⟩, loop_lt HA_1.heap HA.heap (by kernel_rfl) (by kernel_rfl) H.2⟩
  ·refine wp_exit <| then_exit <| then_exit <| block_exit <| then_normal <| freq (mk ([x0,x1,ud,ud,(D 0),x5,x5,x7,x0,x9,x10] ++ (Ad D 6 17 []))) <| wp_seq (lwp_list ?_)
   refine lsassign (.bool false) <| ls_nil (then_normal ?_)
   refine freq (mk ([x0,x1,ud,ud,(.bool false),x5,x5,x7,x0,x9,x10] ++ (Ad D 6 17 []))) <| wp_ret <| end1 (results67) (by kernel_rfl) (by kernel_rfl) HA H _ (.inr rfl)

end Go.Proofs.YtmhhjpfkipficaaDoor


end

section
/- The shallow reading of one function, and that the function does it. Written by a program. -/
set_option linter.unusedVariables false
namespace Go.Proofs.YtmhhjpfkipficaaDoor
open Go Go.HW _root_.Go.Proofs.Tryd

def betonyref03_Width_S (x0 : Value) (h : Heap) (R : Value → Heap → Prop) : Prop :=
  sLt x0 (.int .i64 32) fun x4 =>
  sOr x4 (fun k_1 =>
  sGe x0 (.int .i64 127) fun x7 =>
  sAnd x7 (fun k_2 =>
  sLe x0 (.int .i64 159) fun x10 =>
  k_2 x10) fun x11 =>
  k_1 x11) fun x12 =>
  sOr x12 (fun k =>
  sGt x0 (.int .i64 1114111) fun x15 =>
  k x15) fun x16 =>
  sIf x16 (R (.int .i64 (-1)) h) (sSlit h #[.int .i64 0, .int .i64 0, .int .i64 0, .int .i64 0, .int .i64 0, .int .i64 0, .int .i64 0, .int .i64 0, .int .i64 0, .int .i64 0, .int .i64 0, .int .i64 0, .int .i64 0, .int .i64 0, .int .i64 0, .int .i64 0, .int .i64 0, .int .i64 0] [(0, 1, (.int .i64 768)), (1, 1, (.int .i64 879)), (2, 1, (.int .i64 1155)), (3, 1, (.int .i64 1161)), (4, 1, (.int .i64 1425)), (5, 1, (.int .i64 1469)), (6, 1, (.int .i64 1552)), (7, 1, (.int .i64 1562)), (8, 1, (.int .i64 1611)), (9, 1, (.int .i64 1631)), (10, 1, (.int .i64 8203)), (11, 1, (.int .i64 8207)), (12, 1, (.int .i64 8400)), (13, 1, (.int .i64 8432)), (14, 1, (.int .i64 65024)), (15, 1, (.int .i64 65039)), (16, 1, (.int .i64 65056)), (17, 1, (.int .i64 65071))] 3 18 fun x17 h => 
  betonyref03_in_c x17 x0 h fun x19 h_1 => 
  sIf x19 (R (.int .i64 0) h_1) (sSlit h_1 #[.int .i64 0, .int .i64 0, .int .i64 0, .int .i64 0, .int .i64 0, .int .i64 0, .int .i64 0, .int .i64 0, .int .i64 0, .int .i64 0, .int .i64 0, .int .i64 0, .int .i64 0, .int .i64 0, .int .i64 0, .int .i64 0, .int .i64 0, .int .i64 0, .int .i64 0, .int .i64 0, .int .i64 0, .int .i64 0, .int .i64 0, .int .i64 0, .int .i64 0, .int .i64 0, .int .i64 0, .int .i64 0] [(0, 1, (.int .i64 4352)), (1, 1, (.int .i64 4447)), (2, 1, (.int .i64 11904)), (3, 1, (.int .i64 12350)), (4, 1, (.int .i64 12353)), (5, 1, (.int .i64 13311)), (6, 1, (.int .i64 13312)), (7, 1, (.int .i64 19903)), (8, 1, (.int .i64 19968)), (9, 1, (.int .i64 40959)), (10, 1, (.int .i64 40960)), (11, 1, (.int .i64 42191)), (12, 1, (.int .i64 44032)), (13, 1, (.int .i64 55203)), (14, 1, (.int .i64 63744)), (15, 1, (.int .i64 64255)), (16, 1, (.int .i64 65072)), (17, 1, (.int .i64 65135)), (18, 1, (.int .i64 65280)), (19, 1, (.int .i64 65376)), (20, 1, (.int .i64 65504)), (21, 1, (.int .i64 65510)), (22, 1, (.int .i64 127744)), (23, 1, (.int .i64 128591)), (24, 1, (.int .i64 129280)), (25, 1, (.int .i64 129535)), (26, 1, (.int .i64 131072)), (27, 1, (.int .i64 262141))] 3 28 fun x20 h_2 => 
  betonyref03_in_c x20 x0 h_2 fun x22 h_3 => 
  sIf x22 (R (.int .i64 2) h_3) (R (.int .i64 1) h_3)))
set_option maxRecDepth 100000 in
theorem betonyref03_Width_runs {x0 : Value} {h : Heap} {R : Value → Heap → Prop} (H : betonyref03_Width_S x0 h R) : betonyref03_Width_c x0 h R := by
 unfold betonyref03_Width_S at H
 refine runsof (b := (mk (Ap [x0] 22))) call20 func20 rfl fun w0 HA => wp_seq (lwp_list ?_)
 refine lsassign (.int .i64 0) <| ls_nil (then_normal ?_)
 refine freq (mk (Ap [x0,ud,(.int .i64 0)] 20)) <| wp_seq <| wp_seq (lwp_list ?_)
 refine lsmove x0 <| lsp 4 (psLt H) fun x4 H => lsmove x4 <| ls_or [(),(),(),(),(),(),()] (fun K a w => ∃ (D : Nat → Value) (x12 : Value),a = (mk ([x0,ud,(.int .i64 0),x0,x4,x4] ++ (Ad D 0 6 (Ap [x12] 10)))) ∧ At w0 w h ∧ K x12) H (fun hb_1 H => ?_) (fun hb_1 H => ?_) ?_
 ·refine lsmove (hg := by rw [hb_1]; kernel_rfl) x0 <| lsp (hg := by rw [hb_1]; kernel_rfl) 7 (psGe H) fun x7 H => lsmove (hg := by rw [hb_1]; kernel_rfl) x7 <| ls_and [(),(),()] (fun K a w => ∃ (D_2 : Nat → Value) (x11 : Value),a = (mk (Ap [x0,ud,(.int .i64 0),x0,x4,x4,x0,x7,x7,(D_2 0),(D_2 1),x11] 11)) ∧ At w0 w h ∧ K x11) H (fun hb_2 H => ?_) (fun hb_2 H => ?_) ?_
  ·refine lsmove (hg := by rw [hb_2]; kernel_rfl) x0 <| lsp (hg := by rw [hb_2]; kernel_rfl) 10 (psLe H) fun x10 H => lspickt (hg := by rw [hb_1]; kernel_rfl) x10 (by rw [hb_2]; kernel_rfl) <| ls_nil (then_normal ?_)
   exact ⟨(gd ([x0,x10])),x10,by kernel_rfl,HA,H⟩
  ·refine lsskip (hg := by rw [hb_2]; kernel_rfl) 9 <| lsskip (hg := by rw [hb_2]; kernel_rfl) 10 <| lspickf (hg := by rw [hb_1]; kernel_rfl) (.bool false) (by rw [hb_2]; kernel_rfl) <| ls_nil (then_normal ?_)
   exact ⟨(gd ([ud,ud])),(.bool false),by kernel_rfl,HA,H⟩
  ·rintro _ w_6 ⟨D_2,x11,rfl,HA_6,H⟩
   refine lspickf x11 (by rw [hb_1]; kernel_rfl) <| ls_nil (then_normal ?_)
   exact ⟨(gd ([x0,x7,x7,(D_2 0),(D_2 1),x11])),x11,by kernel_rfl,HA_6,H⟩
 ·refine lsskip (hg := by rw [hb_1]; kernel_rfl) 6 <| lsskip (hg := by rw [hb_1]; kernel_rfl) 7 <| lsskip (hg := by rw [hb_1]; kernel_rfl) 8 <| lsskip 9 <| lsskip 10 <| lsskip (hg := by rw [hb_1]; kernel_rfl) 11 <| lspickt (.bool true) (by rw [hb_1]; kernel_rfl) <| ls_nil (then_normal ?_)
  exact ⟨(gd (Ap [] 6)),(.bool true),by kernel_rfl,HA,H⟩
 ·rintro _ w ⟨D,x12,rfl,HA,H⟩
  refine lsmove x12 <| ls_or [(),(),()] (fun K a w => ∃ (D_1 : Nat → Value) (x16 : Value),a = (mk ([x0,ud,(.int .i64 0),x0,x4,x4] ++ (Ad D 0 6 (Ap [x12,x12,(D_1 0),(D_1 1),x16] 6)))) ∧ At w0 w h ∧ K x16) H (fun hb H => ?_) (fun hb H => ?_) ?_
  ·refine lsmove (hg := by rw [hb]; kernel_rfl) x0 <| lsp (hg := by rw [hb]; kernel_rfl) 15 (psGt H) fun x15 H => lspickf x15 (by rw [hb]; kernel_rfl) <| ls_nil (then_normal ?_)
   exact ⟨(gd ([x0,x15])),x15,by kernel_rfl,HA,H⟩
  ·refine lsskip (hg := by rw [hb]; kernel_rfl) 14 <| lsskip (hg := by rw [hb]; kernel_rfl) 15 <| lspickt (.bool true) (by rw [hb]; kernel_rfl) <| ls_nil (then_normal ?_)
   exact ⟨(gd ([ud,ud])),(.bool true),by kernel_rfl,HA,H⟩
  ·rintro _ w_1 ⟨D_1,x16,rfl,HA_1,H⟩
   refine ls_nil (then_normal ?_)
   refine freq (mk ([x0,ud,(.int .i64 0),x0,x4,x4] ++ (Ad D 0 6 (Ap [x12,x12,(D_1 0),(D_1 1),x16] 6)))) <| wp_if rfl H (fun H => ?_) (fun H => ?_)
   ·refine wp_seq (lwp_list ?_)
    refine lsassign (.int .i64 (-1)) <| ls_nil (then_normal ?_)
    refine freq (mk ([x0,ud,(.int .i64 (-1)),x0,x4,x4] ++ (Ad D 0 6 (Ap [x12,x12,(D_1 0),(D_1 1),x16] 6)))) <| wp_ret <| then_ret <| end1 (results20) (by kernel_rfl) (by kernel_rfl) HA_1 H _ (.inr rfl)
   ·refine wp_skip <| then_normal <| freq (mk ([x0,ud,(.int .i64 0),x0,x4,x4] ++ (Ad D 0 6 (Ap [x12,x12,(D_1 0),(D_1 1),x16] 6)))) <| wp_seq <| wp_seq (lwp_list ?_)
    refine lsd 17 HA_1 (dslit (zc := #[.int .i64 0]) underlying80 sizeOf3 (by decide) (.inr ⟨by decide,_,zeroValue3,(by kernel_rfl)⟩) H) fun x17 h w_2 H HA_2 => lsmove x0 <| lsd 19 HA_2 (dcall H) fun x19 h_1 w_3 H HA_3 => ls_nil (then_normal ?_)
    refine freq (mk ([x0,ud,(.int .i64 0),x0,x4,x4] ++ (Ad D 0 6 [x12,x12,(D_1 0),(D_1 1),x16,x17,x0,x19,ud,ud,ud]))) <| wp_if rfl H (fun H => ?_) (fun H => ?_)
    ·refine wp_seq (lwp_list ?_)
     refine lsassign (.int .i64 0) <| ls_nil (then_normal ?_)
     refine freq (mk ([x0,ud,(.int .i64 0),x0,x4,x4] ++ (Ad D 0 6 [x12,x12,(D_1 0),(D_1 1),x16,x17,x0,x19,ud,ud,ud]))) <| wp_ret <| then_ret <| end1 (results20) (by kernel_rfl) (by kernel_rfl) HA_3 H _ (.inr rfl)
    ·refine wp_skip <| then_normal <| freq (mk ([x0,ud,(.int .i64 0),x0,x4,x4] ++ (Ad D 0 6 [x12,x12,(D_1 0),(D_1 1),x16,x17,x0,x19,ud,ud,ud]))) <| wp_seq <| wp_seq (lwp_list ?_)
     refine lsd 20 HA_3 (dslit (zc := #[.int .i64 0]) underlying80 sizeOf3 (by decide) (.inr ⟨by decide,_,zeroValue3,(by kernel_rfl)⟩) H) fun x20 h_2 w_4 H HA_4 => lsmove x0 <| lsd 22 HA_4 (dcall H) fun x22 h_3 w_5 H HA_5 => ls_nil (then_normal ?_)
     refine freq (mk ([x0,ud,(.int .i64 0),x0,x4,x4] ++ (Ad D 0 6 [x12,x12,(D_1 0),(D_1 1),x16,x17,x0,x19,x20,x0,x22]))) <| wp_if rfl H (fun H => ?_) (fun H => ?_)
     ·refine wp_seq (lwp_list ?_)
      refine lsassign (.int .i64 2) <| ls_nil (then_normal ?_)
      refine freq (mk ([x0,ud,(.int .i64 2),x0,x4,x4] ++ (Ad D 0 6 [x12,x12,(D_1 0),(D_1 1),x16,x17,x0,x19,x20,x0,x22]))) <| wp_ret <| then_ret <| end1 (results20) (by kernel_rfl) (by kernel_rfl) HA_5 H _ (.inr rfl)
     ·refine wp_skip <| then_normal <| freq (mk ([x0,ud,(.int .i64 0),x0,x4,x4] ++ (Ad D 0 6 [x12,x12,(D_1 0),(D_1 1),x16,x17,x0,x19,x20,x0,x22]))) <| wp_seq (lwp_list ?_)
      refine lsassign (.int .i64 1) <| ls_nil (then_normal ?_)
      refine freq (mk ([x0,ud,(.int .i64 1),x0,x4,x4] ++ (Ad D 0 6 [x12,x12,(D_1 0),(D_1 1),x16,x17,x0,x19,x20,x0,x22]))) <| wp_ret <| end1 (results20) (by kernel_rfl) (by kernel_rfl) HA_5 H _ (.inr rfl)

end Go.Proofs.YtmhhjpfkipficaaDoor


end

section
/- Widths of runes: the tables, the search, both answers. -/
set_option linter.unusedSimpArgs false
namespace Go.Proofs.YtmhhjpfkipficaaDoor
open Go Go.HW

abbrev Row := Int × Int
def encR (p : Row) : List Value := [.int .i32 p.1, .int .i32 p.2]
theorem encR_len (p : Row) : (encR p).length = 2 := rfl
def marks : List Row := [(0x300, 0x36f), (0x483, 0x489), (0x591, 0x5bd), (0x610, 0x61a), (0x64b, 0x65f), (0x200b, 0x200f), (0x20d0, 0x20f0), (0xfe00, 0xfe0f), (0xfe20, 0xfe2f)]
def wides : List Row := [(0x1100, 0x115f), (0x2e80, 0x303e), (0x3041, 0x33ff), (0x3400, 0x4dbf), (0x4e00, 0x9fff), (0xa000, 0xa4cf), (0xac00, 0xd7a3), (0xf900, 0xfaff), (0xfe30, 0xfe6f), (0xff00, 0xff60), (0xffe0, 0xffe6), (0x1f300, 0x1f64f), (0x1f900, 0x1f9ff), (0x20000, 0x3fffd)]
def inT (T : List Row) (r : Int) : Bool := T.any fun p => decide (p.1 ≤ r) && decide (r ≤ p.2)
theorem inT_iff {T : List Row} {r : Int} : inT T r = true ↔ ∃ (j : Nat) (p : Row), T[j]? = some p ∧ p.1 ≤ r ∧ r ≤ p.2 := by
  simp only [inT, List.any_eq_true, Bool.and_eq_true, decide_eq_true_eq]
  constructor
  · rintro ⟨p, hp, x⟩
    obtain ⟨j, hj⟩ := List.mem_iff_getElem?.1 hp
    exact ⟨j, p, hj, x⟩
  · rintro ⟨j, p, hj, x⟩
    exact ⟨p, List.mem_of_getElem? hj, x⟩
/-- Rows that rise. -/
def rising : List Row → Bool
  | [] => true
  | p :: r => decide (p.1 ≤ p.2) && (r.all fun q => decide (p.2 < q.1)) && rising r
theorem rising_lt : ∀ {T : List Row}, rising T = true → ∀ {i j : Nat} {p q : Row}, i < j → T[i]? = some p → T[j]? = some q → p.2 < q.1
  | [], _, i, j, p, q, _, h, _ => by simp at h
  | a :: r, h, 0, j + 1, p, q, _, h1, h2 => by
    simp only [rising, Bool.and_eq_true, List.all_eq_true, decide_eq_true_eq] at h
    simp at h1 h2
    subst h1
    exact h.1.2 q (List.mem_of_getElem? h2)
  | a :: r, h, i + 1, j + 1, p, q, hij, h1, h2 => by
    simp only [rising, Bool.and_eq_true] at h
    exact rising_lt (i := i) (j := j) h.2 (by omega) (by simpa using h1) (by simpa using h2)
theorem rising_le : ∀ {T : List Row}, rising T = true → ∀ {i : Nat} {p : Row}, T[i]? = some p → p.1 ≤ p.2
  | a :: r, h, 0, p, h1 => by
    simp only [rising, Bool.and_eq_true, decide_eq_true_eq] at h
    simp at h1; subst h1; exact h.1.1
  | a :: r, h, i + 1, p, h1 => by
    simp only [rising, Bool.and_eq_true] at h
    exact rising_le h.2 (by simpa using h1)
  | [], _, _, _, h => by simp at h
def outR (r : Int) : Bool := decide (r < 32) || (decide (127 ≤ r) && decide (r < 160)) || decide (1114111 < r)
def wt (r : Int) : Int := if outR r = true then -1 else if inT marks r = true then 0 else if inT wides r = true then 2 else 1
theorem wt_rng (r : Int) : -1 ≤ wt r ∧ wt r ≤ 2 := by
  unfold wt; split
  · omega
  · split
    · omega
    · split <;> omega

/-- A table in memory. -/
def Tb (g : Nat) (T : List Row) (h : Heap) : Prop := g < h.size ∧ ∀ (i : Nat) v, (T.flatMap encR)[i]? = some v → h.at g i = some v
theorem Tb.ext {g : Nat} {T : List Row} {h h' : Heap} (x : Tb g T h) (e : Ext h h') : Tb g T h' := ⟨Nat.lt_of_lt_of_le x.1 e.size, fun i v hv => (e.at x.1).trans (x.2 i v hv)⟩
theorem Tb.seq {g : Nat} {T : List Row} {h : Heap} (x : Tb g T h) : Seq encR 2 h (.slice (some ⟨g, 0, none⟩) T.length T.length) T := by
  refine ⟨_, _, _, rfl, rfl, Nat.le_refl _, .inr ⟨g, 0, rfl, x.1, fun j p hj i u hu => ?_⟩⟩
  rw [Nat.zero_add]
  have hi : i < 2 := by have := (List.getElem?_eq_some_iff.1 hu).1; exact this
  exact x.2 _ _ (by rw [get_flat encR_len T j i p hj hi]; exact hu)
def G (h : Heap) : Prop := Tb 0 marks h ∧ Tb 1 wides h
theorem G.ext {h h' : Heap} (g : G h) (e : Ext h h') : G h' := ⟨g.1.ext e, g.2.ext e⟩

section
variable {h : Heap} {R : Value → Heap → Prop}
def cmpR (p : Row) (r : Int) : Int := if p.2 < r then -1 else if p.1 > r then 1 else 0
theorem cmp_spec {p : Row} {r : Int} (H : ∀ h', Ext h h' → R (.int .i64 (cmpR p r)) h') : sCallV Tryd.prog (.func (.func 96) #[] #[]) #[.agg (encR p).toArray, .int .i32 r] h R := by
  refine ⟨96, #[], #[], rfl, ?_⟩
  show wide_in_1_c (.agg (encR p).toArray) (.int .i32 r) h R
  apply wide_in_1_runs
  unfold wide_in_1_S
  refine (HW.Sep.start h).box (c := (encR p).toArray) rfl (fun k h1 s1 => ?_)
  have f0 : ∀ {K : Value → Prop}, sLd h1 (ptr k 0) K = K (.int .i32 p.1) := s1.ld rfl
  have f1 : ∀ {K : Value → Prop}, sLd h1 (ptr k 1) K = K (.int .i32 p.2) := s1.ld rfl
  simp only [ev_off, Nat.zero_add, f0, f1, ev_lt, ev_gt, ev_if, decide_eq_true_eq]
  have H := H h1 s1.ext
  unfold cmpR at H
  split
  · rename_i h1; rw [if_pos h1] at H; exact H
  · rename_i h1; rw [if_neg h1] at H
    split
    · rename_i h2; rw [if_pos h2] at H; exact H
    · rename_i h2; rw [if_neg h2] at H; exact H
theorem cmp_neg {p : Row} {r : Int} : cmpR p r < 0 ↔ p.2 < r := by
  unfold cmpR; split
  · omega
  · split <;> omega
theorem cmp_zero {p : Row} {r : Int} : cmpR p r = 0 ↔ ¬ p.2 < r ∧ ¬ p.1 > r := by
  unfold cmpR; split
  · omega
  · split <;> omega
theorem ev_shr1 {a : Int} {K : Value → Prop} : sShr .u64 (.int .u64 a) (.int .u64 1) K = K (.int .u64 (a / 2)) := by
  have e : a.fdiv (2 ^ (min (1 : Int).toNat IntKind.u64.bits)) = a / 2 := by
    show a.fdiv 2 = a / 2
    exact Int.fdiv_eq_ediv_of_nonneg _ (by decide)
  exact propext ⟨fun ⟨_, _, _, e1, e2, _, x⟩ => by cases e1; cases e2; rw [e] at x; exact x, fun x => ⟨a, .u64, 1, rfl, rfl, by decide, by rw [e]; exact x⟩⟩
theorem in_spec {T : List Row} {v : Value} {r : Int} (hT : rising T = true) (hn : T.length ≤ 1000) (q : Seq encR 2 h v T) (H : ∀ h', Ext h h' → R (.bool (inT T r)) h') : wide_in_c v (.int .i32 r) h R := by
  apply wide_in_runs
  unfold wide_in_S
  apply slices_BinarySearchFunc_wide_row_wide_row_rune_runs
  unfold slices_BinarySearchFunc_wide_row_wide_row_rune_S
  rw [q.len]
  refine ⟨fun t h' => ∃ i j : Nat, i ≤ j ∧ j ≤ T.length ∧ t = (.int .i64 i, .int .i64 j) ∧ (∀ k p, k < i → T[k]? = some p → p.2 < r) ∧ (∀ k p, j ≤ k → T[k]? = some p → ¬ p.2 < r) ∧ Ext h h', fun t _ => match t with | (.int _ i, .int _ j) => (j - i).toNat | _ => 0, ⟨0, T.length, Nat.zero_le _, Nat.le_refl _, rfl, fun _ _ h => by omega, fun k p h1 h2 => ?_, Ext.refl h⟩, ?_⟩
  · have := (List.getElem?_eq_some_iff.1 h2).1; omega
  rintro _ h1 ⟨i, j, hij, hj, rfl, hlo, hhi, e1⟩
  simp only []
  unfold slices_BinarySearchFunc_wide_row_wide_row_rune_l1
  rw [ev_lt, ev_if]
  by_cases hlt : i < j
  · rw [if_pos (by simpa using hlt), ev_add, wrap_i64 (by omega) (by omega), ev_conv, wrap_u64, Int.emod_eq_of_lt (by omega) (by omega), ev_shr1, ev_conv, wrap_i64 (by omega) (by omega)]
    obtain ⟨m, hm⟩ : ∃ m : Nat, ((i : Int) + j) / 2 = m := ⟨(((i : Int) + j) / 2).toNat, by omega⟩
    rw [hm]
    have hmT : m < T.length := by omega
    obtain ⟨p, hp⟩ : ∃ p, T[m]? = some p := ⟨T[m], List.getElem?_eq_getElem hmT⟩
    rw [(q.ext e1).ldn hp rfl]
    refine cmp_spec (fun h2 e2 => ?_)
    rw [ev_lt, ev_if]
    split
    · rename_i hc
      rw [decide_eq_true_eq, cmp_neg] at hc
      rw [ev_add, wrap_i64 (by omega) (by omega)]
      refine ⟨⟨m + 1, j, by omega, hj, by rw [Int.natCast_add]; rfl, fun k x hk hx => ?_, hhi, e1.trans e2⟩, by simp only; omega⟩
      by_cases hkm : k = m
      · subst hkm; rw [hp] at hx; cases hx; exact hc
      · have h1 := rising_lt hT (show k < m by omega) hx hp
        have h2 := rising_le hT hp
        omega
    · rename_i hc
      rw [decide_eq_true_eq, cmp_neg] at hc
      refine ⟨⟨i, m, by omega, by omega, rfl, hlo, fun k x hk hx => ?_, e1.trans e2⟩, by simp only; omega⟩
      by_cases hkm : k = m
      · subst hkm; rw [hp] at hx; cases hx; exact hc
      · have h1 := rising_lt hT (show m < k by omega) hp hx
        have h2 := rising_le hT hx
        omega
  · have : i = j := by omega
    subst this
    rw [if_neg (by simp), ev_lt]
    by_cases hi : i < T.length
    · obtain ⟨p, hp⟩ : ∃ p, T[i]? = some p := ⟨T[i], List.getElem?_eq_getElem hi⟩
      rw [show decide ((i : Int) < (T.length : Int)) = true by simpa using hi, ev_andh, if_pos rfl, (q.ext e1).ldn hp rfl]
      refine cmp_spec (fun h2 e2 => ?_)
      simp only [ev_eq, ev_tup, List.getElem?_toArray, List.getElem?_cons_succ, List.getElem?_cons_zero]
      have : (cmpR p r == 0) = inT T r := by
        rw [Bool.eq_iff_iff, inT_iff, beq_iff_eq, cmp_zero]
        constructor
        · intro x; exact ⟨i, p, hp, by omega, by omega⟩
        · rintro ⟨k, x, hx, h1, h2⟩
          rcases Nat.lt_trichotomy k i with hk | hk | hk
          · have := hlo k x hk hx; omega
          · subst hk; rw [hp] at hx; cases hx; omega
          · have h3 := rising_lt hT hk hp hx
            have := hhi i p (Nat.le_refl _) hp; omega
      rw [this]; exact H _ (e1.trans e2)
    · rw [show decide ((i : Int) < (T.length : Int)) = false by simpa using hi, ev_andh, if_neg (by decide)]
      simp only [ev_tup, List.getElem?_toArray, List.getElem?_cons_succ, List.getElem?_cons_zero]
      have : inT T r = false := by
        rw [← Bool.not_eq_true, inT_iff]
        rintro ⟨k, x, hx, h1, h2⟩
        have h3 := (List.getElem?_eq_some_iff.1 hx).1
        have := hlo k x (by omega) hx; omega
      rw [this] at H
      exact H _ e1
theorem slA {g n : Nat} {K : Value → Prop} (H : K (.slice (some ⟨g, 0, none⟩) n n)) (hn : 0 < n) : sSlA (.pointer (some ⟨g, 0, none⟩)) none none n 2 K := by
  refine ⟨g, 0, 0, n, rfl, rfl, rfl, Nat.zero_le _, Nat.le_refl _, ?_⟩
  unfold cutV
  rw [if_neg (by omega)]
  simpa [Addr.add] using H
theorem width_spec {r : Int} (g : G h) (H : ∀ h', Ext h h' → R (.int .i64 (wt r)) h') : wide_Width_c (.int .i32 r) h R := by
  apply wide_Width_runs
  unfold wide_Width_S
  simp only [ev_lt, ev_ge, ev_gt, ev_and_p, ev_or_p, ev_if]
  unfold wt at H
  rw [show (decide (r < 32) || (decide (r ≥ 127) && decide (r < 160)) || decide (r > 1114111)) = outR r from rfl]
  split
  · rename_i h1; rw [if_pos h1] at H; exact H h (Ext.refl h)
  · rename_i h1; rw [if_neg h1] at H
    refine slA ?_ (by decide)
    refine in_spec (T := marks) (by decide) (by decide) g.1.seq (fun h2 e2 => ?_)
    rw [ev_if]
    split
    · rename_i h3; rw [if_pos h3] at H; exact H h2 e2
    · rename_i h3; rw [if_neg h3] at H
      refine slA ?_ (by decide)
      refine in_spec (T := wides) (by decide) (by decide) (g.2.seq.ext e2) (fun h4 e4 => ?_)
      rw [ev_if]
      split
      · rename_i h5; rw [if_pos h5] at H; exact H h4 (e2.trans e4)
      · rename_i h5; rw [if_neg h5] at H; exact H h4 (e2.trans e4)
/-- The reference's rows, one number behind the other. -/
def flt (T : List Row) : List Int := T.flatMap fun p => [p.1, p.2]
theorem flt_len : ∀ T : List Row, (flt T).length = 2 * T.length
  | [] => rfl
  | a :: r => by show ([a.1, a.2] ++ flt r).length = _; rw [List.length_append, flt_len r, List.length_cons]; simp; omega
theorem flt_get : ∀ {T : List Row} {k : Nat} {p : Row}, T[k]? = some p → (flt T)[2 * k]? = some p.1 ∧ (flt T)[2 * k + 1]? = some p.2
  | a :: r, 0, p, h => by simp at h; subst h; exact ⟨rfl, rfl⟩
  | a :: r, k + 1, p, h => by
    have := flt_get (T := r) (k := k) (p := p) (by simpa using h)
    exact this
  | [], _, _, h => by simp at h
theorem rwin_spec {T : List Row} {v : Value} {r : Int} (hn : T.length ≤ 1000) (q : Ints .i64 h v (flt T)) (H : R (.bool (inT T r)) h) : betonyref03_in_c v (.int .i64 r) h R := by
  apply betonyref03_in_runs
  unfold betonyref03_in_S
  refine ⟨fun t h' => ∃ k : Nat, k ≤ T.length ∧ t = .int .i64 ((2 * k : Nat) : Int) ∧ (∀ j p, j < k → T[j]? = some p → ¬(p.1 ≤ r ∧ r ≤ p.2)) ∧ h' = h, fun t _ => match t with | .int _ i => (2 * T.length - i).toNat | _ => 0, ⟨0, Nat.zero_le _, rfl, fun _ _ h => by omega, rfl⟩, ?_⟩
  rintro _ _ ⟨k, hk, rfl, hno, rfl⟩
  simp only []
  unfold betonyref03_in_l1
  rw [ev_add, wrap_i64 (by omega) (by omega), q.len, flt_len, ev_lt, ev_if]
  by_cases hlt : k < T.length
  · rw [if_pos (by rw [decide_eq_true_eq]; omega)]
    obtain ⟨p, hp⟩ : ∃ p, T[k]? = some p := ⟨T[k], List.getElem?_eq_getElem hlt⟩
    obtain ⟨g1, g2⟩ := flt_get hp
    have f1 : ∀ {K : Value → Prop}, sIxS v (.int .i64 ((2 * k : Nat) : Int)) 1 (fun a => sLd _ a K) = K (.int .i64 p.1) := q.ld g1 rfl .i64
    have f2 : ∀ {K : Value → Prop}, sIxS v (.int .i64 ((2 * k + 1 : Nat) : Int)) 1 (fun a => sLd _ a K) = K (.int .i64 p.2) := q.ld g2 rfl .i64
    rw [f1, ev_ge]
    have e : ((2 * k : Nat) : Int) + 1 = ((2 * k + 1 : Nat) : Int) := by omega
    simp only [ev_add, e, wrap_i64 (show -9223372036854775808 ≤ ((2 * k + 1 : Nat) : Int) by omega) (by omega), f2, ev_le, ev_and_p, ev_if]
    split
    · rename_i hc
      simp only [Bool.and_eq_true, decide_eq_true_eq] at hc
      rw [inT_iff.2 ⟨k, p, hp, hc.1, hc.2⟩] at H; exact H
    · rename_i hc
      simp only [Bool.and_eq_true, decide_eq_true_eq] at hc
      rw [wrap_i64 (by omega) (by omega)]
      refine ⟨⟨k + 1, hlt, by congr 1, fun j x hj hx => ?_, trivial⟩, by omega⟩
      by_cases hjk : j = k
      · subst hjk; rw [hp] at hx; cases hx; exact hc
      · exact hno j x (by omega) hx
  · rw [if_neg (by rw [decide_eq_true_eq]; omega)]
    have : inT T r = false := by
      rw [← Bool.not_eq_true, inT_iff]
      rintro ⟨j, x, hx, h1, h2⟩
      have h3 := (List.getElem?_eq_some_iff.1 hx).1
      exact hno j x (by omega) hx ⟨h1, h2⟩
    rw [this] at H; exact H
theorem rwidth_spec {r : Int} (H : ∀ h', Ext h h' → R (.int .i64 (wt r)) h') : betonyref03_Width_c (.int .i64 r) h R := by
  apply betonyref03_Width_runs
  unfold betonyref03_Width_S
  simp only [ev_lt, ev_ge, ev_le, ev_gt, ev_and_p, ev_or_p, ev_if]
  unfold wt at H
  rw [show (decide (r < 32) || (decide (r ≥ 127) && decide (r ≤ 159)) || decide (r > 1114111)) = outR r by unfold outR; rw [show decide (r ≤ 159) = decide (r < 160) by rw [decide_eq_decide]; omega]]
  split
  · rename_i h1; rw [if_pos h1] at H; exact H h (Ext.refl h)
  · rename_i h1; rw [if_neg h1] at H
    refine (HW.Sep.start h).slit (enc := encI .i64) (sz := 1) (encI_len _) (flt marks) rfl (fill_k (by kernel_rfl)) (fun v h2 _ s2 => ?_)
    refine rwin_spec (T := marks) (by decide) s2.seq ?_
    rw [ev_if]
    split
    · rename_i h3; rw [if_pos h3] at H; exact H h2 s2.ext
    · rename_i h3; rw [if_neg h3] at H
      refine s2.slit (enc := encI .i64) (sz := 1) (encI_len _) (flt wides) rfl (fill_k (by kernel_rfl)) (fun v h4 _ s4 => ?_)
      refine rwin_spec (T := wides) (by decide) s4.seq ?_
      rw [ev_if]
      split
      · rename_i h5; rw [if_pos h5] at H; exact H h4 s4.ext
      · rename_i h5; rw [if_neg h5] at H; exact H h4 s4.ext
end
end Go.Proofs.YtmhhjpfkipficaaDoor


end

section
/- The shallow reading of one function, and that the function does it. Written by a program. -/
set_option linter.unusedVariables false
namespace Go.Proofs.YtmhhjpfkipficaaDoor
open Go Go.HW _root_.Go.Proofs.Tryd

def screen_Screen_cur_S (x0 : Value) (h : Heap) (R : Value → Heap → Prop) : Prop :=
  sNil x0 fun x4 =>
  sOff x4 3 fun x5 =>
  sOff x5 0 fun x6 =>
  R x6 h
set_option maxRecDepth 100000 in
theorem screen_Screen_cur_runs {x0 : Value} {h : Heap} {R : Value → Heap → Prop} (H : screen_Screen_cur_S x0 h R) : screen_Screen_cur_c x0 h R := by
 unfold screen_Screen_cur_S at H
 refine runsof (b := (mk (Ap [x0] 6))) call30 func30 rfl fun w0 HA => wp_seq (lwp_list ?_)
 refine lsassign (.pointer none) <| ls_nil (then_normal ?_)
 refine freq (mk (Ap [x0,ud,(.pointer none)] 4)) <| wp_seq (lwp_list ?_)
 refine lsmove x0 <| lsp 4 (pnil H) fun x4 H => lsp 5 (poff underlying64 rfl sizeOf61 rfl H) fun x5 H => lsp 6 (poff underlying61 rfl sizeOf38 rfl H) fun x6 H => lsassign x6 <| ls_nil (then_normal ?_)
 refine freq (mk [x0,ud,x6,x0,x4,x5,x6]) <| wp_ret <| end1 (results30) (by kernel_rfl) (by kernel_rfl) HA H _ (.inr rfl)

end Go.Proofs.YtmhhjpfkipficaaDoor


end

section
/- The shallow reading of one function, and that the function does it. Written by a program. -/
set_option linter.unusedVariables false
namespace Go.Proofs.YtmhhjpfkipficaaDoor
open Go Go.HW _root_.Go.Proofs.Tryd

def screen_Screen_blank_S (x0 : Value) (h : Heap) (R : Value → Heap → Prop) : Prop :=
  sNew h #[.int .i32 0, .int .i64 0, .int .i64 0, .int .i64 0] 31 fun x2 h => 
  sNil x0 fun x4 =>
  sOff x4 3 fun x5 =>
  sOff x5 3 fun x6 =>
  sOff x6 1 fun x7 =>
  sLd h x7 fun x8 =>
  sBuild #[.int .i64 0, .int .i64 0, .int .i64 0] [(1, 1, x8)] fun x9 =>
  sBuild #[.int .i32 0, .int .i64 0, .int .i64 0, .int .i64 0] [(1, 3, x9)] fun x10 =>
  sStN h x2 x10 4 fun h_1 => 
  sLdN h_1 x2 4 fun r2 =>
  R r2 h_1
set_option maxRecDepth 100000 in
theorem screen_Screen_blank_runs {x0 : Value} {h : Heap} {R : Value → Heap → Prop} (H : screen_Screen_blank_S x0 h R) : screen_Screen_blank_c x0 h R := by
 unfold screen_Screen_blank_S at H
 refine runsof (b := (mk (Ap [x0] 10))) call70 func70 rfl fun w0 HA => wp_seq (lwp_list ?_)
 refine lsd 2 HA (d_alloc zeroValue31 H) fun x2 h w H HA => ls_nil (then_normal ?_)
 refine freq (mk (Ap [x0,ud,x2] 8)) <| wp_seq (lwp_list ?_)
 refine lsmove x0 <| lsp 4 (pnil H) fun x4 H => lsp 5 (poff underlying64 rfl sizeOf61 rfl H) fun x5 H => lsp 6 (poff underlying61 rfl sizeOf29 rfl H) fun x6 H => lsp 7 (poff underlying29 rfl sizeOf3 rfl H) fun x7 H => lsy 8 HA (yld isAgg3 H) fun x8 H => lsp 9 (plit (pl := [(0,1),(1,1),(2,1)]) zeroValue29 underlying29 ⟨(by kernel_rfl),sizeOf3,(by kernel_rfl),sizeOf3,(by kernel_rfl),sizeOf3,trivial⟩ H) fun x9 H => lsp 10 (plit (pl := [(0,1),(1,3)]) zeroValue31 underlying31 ⟨(by kernel_rfl),sizeOf21,(by kernel_rfl),sizeOf29,trivial⟩ H) fun x10 H => lsdn HA (dstn sizeOf31 H) fun _ h_1 w_1 H HA_1 => ls_nil (then_normal ?_)
 refine freq (mk [x0,ud,x2,x0,x4,x5,x6,x7,x8,x9,x10]) <| wp_ret ?_
 obtain ⟨r2,hr2,H⟩ := ld_n isAgg31 sizeOf31 H
 exact endR (vs := [r2]) (results70) (by kernel_rfl) ⟨⟨_,(by kernel_rfl),hr2⟩, trivial⟩ HA_1 H _ (.inr rfl)

end Go.Proofs.YtmhhjpfkipficaaDoor


end

section
/- The shallow reading of one function, and that the function does it. Written by a program. -/
set_option linter.unusedVariables false
namespace Go.Proofs.YtmhhjpfkipficaaDoor
open Go Go.HW _root_.Go.Proofs.Tryd

def screen_Screen_up_S (x0 x1 x2 : Value) (h : Heap) (R : Value → Heap → Prop) : Prop :=
  sNil x0 fun x8 =>
  sOff x8 20 fun x9 =>
  sLd h x9 fun x10 =>
  sSub .i64 x10 x1 fun x12 =>
  sAdd .i64 x12 (.int .i64 1) fun x13 =>
  sMin x2 x13 fun x14 =>
  sLt x14 (.int .i64 1) fun x16 =>
  sIf x16 (R unit h) (sNil x0 fun x18 =>
  sOff x18 0 fun x19 =>
  sLd h x19 fun x20 =>
  sAdd .i64 x1 x14 fun x23 =>
  sNil x0 fun x25 =>
  sOff x25 1 fun x26 =>
  sLd h x26 fun x27 =>
  sNil x0 fun x29 =>
  sOff x29 20 fun x30 =>
  sLd h x30 fun x31 =>
  sSub .i64 x31 x1 fun x33 =>
  sAdd .i64 x33 (.int .i64 1) fun x34 =>
  sSub .i64 x34 x14 fun x36 =>
  sBuild #[.int .i64 0, .int .i64 0, .int .i64 0, .int .i64 0] [(1, 1, x23), (2, 1, x27), (3, 1, x36)] fun x37 =>
  grid_Grid_Copy_c x20 x37 (.int .i64 0) x1 h fun x39 h => 
  ∃ C : Heap → Prop, C h ∧ (sNil x0 fun x41 =>
  sOff x41 0 fun x42 =>
  sLdC C x42 fun x43 =>
  sNil x0 fun x45 =>
  sOff x45 20 fun x46 =>
  sLdC C x46 fun x47 =>
  sAdd .i64 x47 (.int .i64 1) fun x48 =>
  sSub .i64 x48 x14 fun x50 =>
  sNil x0 fun x52 =>
  sOff x52 1 fun x53 =>
  sLdC C x53 fun x54 =>
  sBuild #[.int .i64 0, .int .i64 0, .int .i64 0, .int .i64 0] [(1, 1, x50), (2, 1, x54), (3, 1, x14)] fun x56 =>
  screen_Screen_blank_c x0 h fun x58 h_1 => C h_1 ∧ (
  grid_Grid_Fill_c x43 x56 x58 h_1 fun x59 h_2 => 
  R unit h_2)))
set_option maxRecDepth 100000 in
theorem screen_Screen_up_runs {x0 x1 x2 : Value} {h : Heap} {R : Value → Heap → Prop} (H : screen_Screen_up_S x0 x1 x2 h R) : screen_Screen_up_c x0 x1 x2 h R := by
 unfold screen_Screen_up_S at H
 refine runsof (b := ⟨#[x0,x1,x2,ud,ud,ud,ud,ud,ud,ud,ud,ud,ud,ud,ud,ud,ud,ud,ud,ud,ud,ud,ud,ud,ud,ud,ud,ud,ud,ud,ud,ud,ud,ud,ud,ud,ud,ud,ud,ud,ud,ud,ud,ud,ud,ud,ud,ud,ud,ud,ud,ud,ud,ud,ud,ud,ud,ud,ud,ud], []⟩) call86 func86 rfl fun w0 HA => wp_seq (lwp_list ?_)
 refine lsmove x2 <| lsmove x0 <| lsp 8 (pnil H) fun x8 H => lsp 9 (poff underlying64 rfl sizeOf3 rfl H) fun x9 H => lsy 10 HA (yld isAgg3 H) fun x10 H => lsmove x1 <| lsp 12 (psub H) fun x12 H => lsp 13 (padd H) fun x13 H => lsp 14 (pmin H) fun x14 H => lsassign x14 <| ls_nil (then_normal ?_)
 refine freq ⟨#[x0,x1,x14,ud,ud,ud,x2,x0,x8,x9,x10,x1,x12,x13,x14,ud,ud,ud,ud,ud,ud,ud,ud,ud,ud,ud,ud,ud,ud,ud,ud,ud,ud,ud,ud,ud,ud,ud,ud,ud,ud,ud,ud,ud,ud,ud,ud,ud,ud,ud,ud,ud,ud,ud,ud,ud,ud,ud,ud,ud], []⟩ <| wp_seq <| wp_seq (lwp_list ?_)
 refine lsmove x14 <| lsp 16 (psLt H) fun x16 H => ls_nil (then_normal ?_)
 refine freq ⟨#[x0,x1,x14,ud,ud,ud,x2,x0,x8,x9,x10,x1,x12,x13,x14,x14,x16,ud,ud,ud,ud,ud,ud,ud,ud,ud,ud,ud,ud,ud,ud,ud,ud,ud,ud,ud,ud,ud,ud,ud,ud,ud,ud,ud,ud,ud,ud,ud,ud,ud,ud,ud,ud,ud,ud,ud,ud,ud,ud,ud], []⟩ <| wp_if rfl H (fun H => ?_) (fun H => ?_)
 ·refine wp_ret <| then_ret <| end0 (results86) (by kernel_rfl) HA H _ (.inr rfl)
 ·refine wp_skip <| then_normal <| freq ⟨#[x0,x1,x14,ud,ud,ud,x2,x0,x8,x9,x10,x1,x12,x13,x14,x14,x16,ud,ud,ud,ud,ud,ud,ud,ud,ud,ud,ud,ud,ud,ud,ud,ud,ud,ud,ud,ud,ud,ud,ud,ud,ud,ud,ud,ud,ud,ud,ud,ud,ud,ud,ud,ud,ud,ud,ud,ud,ud,ud,ud], []⟩ <| wp_seq <| lwpmx (Nat.testBit 4194304) (Nat.testBit 0) (Nat.testBit 4176887) [0,1,3,7,0,0,48,0,128,384,896,0,2048,6144,14336,0,63488,129024,0,522240,1048560,0,4194303] (Nat.testBit 0) (fun h' => h' = h) [0,1,2,3,4,5,6,7,8,9,10,11,12,13,14,15,16,17,18,19,20,21,22] HA rfl fun w HA => lmal x0 17 rfl (almove) <| lmp 18 rfl (pnil H) fun x18 H => lmp 19 rfl (poff underlying64 rfl sizeOf54 rfl H) fun x19 H => lmf 20 rfl (of_eq (yld isAgg54 H)) fun x20 H => lmal x1 21 rfl (almove) <| lmal x14 22 rfl (almove) <| lmp 23 rfl (padd H) fun x23 H => lmal x0 24 rfl (almove) ?_
  refine lmp 25 rfl (pnil H) fun x25 H => lmp 26 rfl (poff underlying64 rfl sizeOf3 rfl H) fun x26 H => lmf 27 rfl (of_eq (yld isAgg3 H)) fun x27 H => lmal x0 28 rfl (almove) <| lmp 29 rfl (pnil H) fun x29 H => lmp 30 rfl (poff underlying64 rfl sizeOf3 rfl H) fun x30 H => lmf 31 rfl (of_eq (yld isAgg3 H)) fun x31 H => lmal x1 32 rfl (almove) <| lmp 33 rfl (psub H) fun x33 H => lmp 34 rfl (padd H) fun x34 H => lmal x14 35 rfl (almove) <| lmp 36 rfl (psub H) fun x36 H => lmp 37 rfl (plit (pl := [(0,1),(1,1),(2,1),(3,1)]) zeroValue83 underlying83 ⟨(by kernel_rfl),sizeOf3,(by kernel_rfl),sizeOf3,(by kernel_rfl),sizeOf3,(by kernel_rfl),sizeOf3,trivial⟩ H) fun x37 H => lmal x1 38 rfl (almove) ?_
  refine lmd 39 rfl HA (dcall H) fun x39 h w_1 H HA_1 => lm_nil <| then_normal <| freq ⟨#[x0,x1,x14,ud,ud,ud,x2,x0,x8,x9,x10,x1,x12,x13,x14,x14,x16,x0,x18,x19,x20,x1,x14,x23,x0,x25,x26,x27,x0,x29,x30,x31,x1,x33,x34,x14,x36,x37,x1,x39,ud,ud,ud,ud,ud,ud,ud,ud,ud,ud,ud,ud,ud,ud,ud,ud,ud,ud,ud,ud], []⟩ ?_
  obtain ⟨C,HC,H⟩ := H
  refine lwpmx (Nat.testBit 786432) (Nat.testBit 262144) (Nat.testBit 245623) [0,1,3,7,0,16,48,112,240,0,1008,0,2048,6144,14336,0,65520,0,131072,524287] (Nat.testBit 0) C [0,1,2,3,4,5,6,7,8,9,10,11,12,13,14,15,16,17,18,19] HA_1 HC fun w_2 HA_2 => lmal x0 40 rfl (almove) <| lmp 41 rfl (pnil H) fun x41 H => lmp 42 rfl (poff underlying64 rfl sizeOf54 rfl H) fun x42 H => lmf 43 rfl (cld isAgg54 H) fun x43 H => lmal x0 44 rfl (almove) <| lmp 45 rfl (pnil H) fun x45 H => lmp 46 rfl (poff underlying64 rfl sizeOf3 rfl H) fun x46 H => lmf 47 rfl (cld isAgg3 H) fun x47 H => lmp 48 rfl (padd H) fun x48 H => lmal x14 49 rfl (almove) <| lmp 50 rfl (psub H) fun x50 H => lmal x0 51 rfl (almove) ?_
  refine lmp 52 rfl (pnil H) fun x52 H => lmp 53 rfl (poff underlying64 rfl sizeOf3 rfl H) fun x53 H => lmf 54 rfl (cld isAgg3 H) fun x54 H => lmal x14 55 rfl (almove) <| lmp 56 rfl (plit (pl := [(0,1),(1,1),(2,1),(3,1)]) zeroValue83 underlying83 ⟨(by kernel_rfl),sizeOf3,(by kernel_rfl),sizeOf3,(by kernel_rfl),sizeOf3,(by kernel_rfl),sizeOf3,trivial⟩ H) fun x56 H => lmal x0 57 rfl (almove) <| lmdc 58 rfl HA_2 (dcall H) fun x58 h_1 w_3 H HA_3 => lmd 59 rfl HA_3 (dcall H) fun x59 h_2 w_4 H HA_4 => lm_nil <| end0 (results86) (by kernel_rfl) HA_4 H _ (.inl rfl)

end Go.Proofs.YtmhhjpfkipficaaDoor


end

section
/- The shallow reading of one function, and that the function does it. Written by a program. -/
set_option linter.unusedVariables false
namespace Go.Proofs.YtmhhjpfkipficaaDoor
open Go Go.HW _root_.Go.Proofs.Tryd

def screen_Screen_scrollUp_j1 (R : Value → Heap → Prop) (x0 x16 : Value) (h : Heap) : Prop :=
  sNil x0 fun x44 =>
  sOff x44 19 fun x45 =>
  sLd h x45 fun x46 =>
  screen_Screen_up_c x0 x46 x16 h fun x48 h_1 => 
  R unit h_1
def screen_Screen_scrollUp_l2 (R : Value → Heap → Prop) (x0 x16 : Value) (next : Value → Heap → Prop) (x23 : Value) (h_2 : Heap) : Prop :=
  sLt x23 x16 fun x24 =>
  sIf x24 (∃ C : Heap → Prop, C h_2 ∧ (sNil x0 fun x28 =>
  sOff x28 533 fun x29 =>
  sLdC C x29 fun x30 =>
  sNil x0 fun x32 =>
  sOff x32 0 fun x33 =>
  sLd h_2 x33 fun x34 =>
  grid_Grid_Row_c x34 x23 h_2 fun x36 h_3 => C h_3 ∧ (
  sSlit h_3 #[.slice none 0 0] [(0, 1, x36)] 32 1 fun x37 h_4 => C h_4 ∧ (
  sApp h_4 x30 x37 #[.slice none 0 0] 32 24 fun x38 h_5 => 
  sNil x0 fun x39 =>
  sOff x39 533 fun x40 =>
  sSt h_5 x40 x38 fun h_6 => 
  sAdd .i64 x23 (.int .i64 1) fun x41 =>
  next x41 h_6)))) (screen_Screen_scrollUp_j1 R x0 x16 h_2)
def screen_Screen_scrollUp_S (x0 x1 : Value) (h : Heap) (R : Value → Heap → Prop) : Prop :=
  sNil x0 fun x7 =>
  sOff x7 20 fun x8 =>
  sLd h x8 fun x9 =>
  sNil x0 fun x11 =>
  sOff x11 19 fun x12 =>
  sLd h x12 fun x13 =>
  sSub .i64 x9 x13 fun x14 =>
  sAdd .i64 x14 (.int .i64 1) fun x15 =>
  sMin x1 x15 fun x16 =>
  sNil x0 fun x18 =>
  sOff x18 19 fun x19 =>
  sLd h x19 fun x20 =>
  sEq x20 (.int .i64 0) fun x21 =>
  sIf x21 (sLoop (S := Value) (fun nxt s h => screen_Screen_scrollUp_l2 R x0 x16 (fun x23' h => nxt x23' h) s h) (.int .i64 0) h) (screen_Screen_scrollUp_j1 R x0 x16 h)
set_option maxRecDepth 100000 in
theorem screen_Screen_scrollUp_runs {x0 x1 : Value} {h : Heap} {R : Value → Heap → Prop} (H : screen_Screen_scrollUp_S x0 x1 h R) : screen_Screen_scrollUp_c x0 x1 h R := by
 unfold screen_Screen_scrollUp_S at H
 refine runsof (b := ⟨#[x0,x1,ud,ud,ud,ud,ud,ud,ud,ud,ud,ud,ud,ud,ud,ud,ud,ud,ud,ud,ud,ud,ud,ud,ud,ud,ud,ud,ud,ud,ud,ud,ud,ud,ud,ud,ud,ud,ud,ud,ud,ud,ud,ud,ud,ud,ud,ud,ud], []⟩) call74 func74 rfl fun w0 HA => wp_seq <| lwpqt HA <| lqmove x1 <| lqmove x0 <| lqp 7 (pnil H) fun x7 H => lqp 8 (poff underlying64 rfl sizeOf3 rfl H) fun x8 H => lqy 9 HA (yld isAgg3 H) fun x9 H => lqmove x0 <| lqp 11 (pnil H) fun x11 H => lqp 12 (poff underlying64 rfl sizeOf3 rfl H) fun x12 H => lqy 13 HA (yld isAgg3 H) fun x13 H => lqp 14 (psub H) fun x14 H => lqp 15 (padd H) (fun x15 H => ?_)
 refine lqp 16 (pmin H) fun x16 H => lqassign x16 <| lq_nil fun w HA => then_normal <| freq ⟨#[x0,x16,ud,ud,ud,x1,x0,x7,x8,x9,x0,x11,x12,x13,x14,x15,x16,ud,ud,ud,ud,ud,ud,ud,ud,ud,ud,ud,ud,ud,ud,ud,ud,ud,ud,ud,ud,ud,ud,ud,ud,ud,ud,ud,ud,ud,ud,ud,ud], []⟩ <| wp_seq <| wp_seq (lwp_list ?_)
 refine lsmove x0 <| lsp 18 (pnil H) fun x18 H => lsp 19 (poff underlying64 rfl sizeOf3 rfl H) fun x19 H => lsy 20 HA (yld isAgg3 H) fun x20 H => lsp 21 (psEq H) fun x21 H => ls_nil (then_normal ?_)
 refine freq ⟨#[x0,x16,ud,ud,ud,x1,x0,x7,x8,x9,x0,x11,x12,x13,x14,x15,x16,x0,x18,x19,x20,x21,ud,ud,ud,ud,ud,ud,ud,ud,ud,ud,ud,ud,ud,ud,ud,ud,ud,ud,ud,ud,ud,ud,ud,ud,ud,ud,ud], []⟩ <| wp_join (fun a w => ∃ (D : Nat → Value) (h : Heap),a = ⟨#[x0,x16,ud,ud,(D 0),x1,x0,x7,x8,x9,x0,x11,x12,x13,x14,x15,x16,x0,x18,x19,x20,x21,(D 1),(D 2),(D 3),(D 4),(D 5),(D 6),(D 7),(D 8),(D 9),(D 10),(D 11),(D 12),(D 13),(D 14),(D 15),(D 16),(D 17),(D 18),(D 19),(D 20),ud,ud,ud,ud,ud,ud,ud], []⟩ ∧ At w0 w h ∧ screen_Screen_scrollUp_j1 R x0 x16 h) ?_ ?_
 ·refine wp_if rfl H (fun H => ?_) (fun H => ?_)
  ·refine wp_seq (lwp_list ?_)
   refine lsmove x16 <| lsmove (.int .i64 0) <| ls_nil (then_normal ?_)
   refine freq ⟨#[x0,x16,ud,ud,ud,x1,x0,x7,x8,x9,x0,x11,x12,x13,x14,x15,x16,x0,x18,x19,x20,x21,x16,(.int .i64 0),ud,ud,ud,ud,ud,ud,ud,ud,ud,ud,ud,ud,ud,ud,ud,ud,ud,ud,ud,ud,ud,ud,ud,ud,ud], []⟩ <| wp_block ?_
   obtain ⟨I,m,H0,HB⟩ := H
   refine wp_loop (fun a w => ∃ (D_1 : Nat → Value) (x23 : Value) (h_2 : Heap),a = ⟨#[x0,x16,ud,ud,(D_1 0),x1,x0,x7,x8,x9,x0,x11,x12,x13,x14,x15,x16,x0,x18,x19,x20,x21,x16,x23,(D_1 1),(D_1 2),(D_1 3),(D_1 4),(D_1 5),(D_1 6),(D_1 7),(D_1 8),(D_1 9),(D_1 10),(D_1 11),(D_1 12),(D_1 13),(D_1 14),(D_1 15),(D_1 16),(D_1 17),(D_1 18),ud,ud,ud,ud,ud,ud,ud], []⟩ ∧ At w0 w h_2 ∧ I x23 h_2) (fun a w => m (a.tmps.getD 23 ud) w.heap) ?_ ?_
   ·exact ⟨(gd (Ap [] 19)),(.int .i64 0),h,by kernel_rfl,HA,H0⟩
   ·rintro _ w_3 ⟨D_1,x23,h_2,rfl,HA_3,HI⟩
    have H : screen_Screen_scrollUp_l2 R x0 x16 (fun x23' h' => I x23' h' ∧ m x23' h' < m x23 h_2) x23 h_2 := HB x23 h_2 HI
    clear HB H0 HI
    unfold screen_Screen_scrollUp_l2 at H
    refine wp_seq (lwp_list ?_)
    refine lsp 24 (psLt H) fun x24 H => ls_nil (then_normal ?_)
    refine freq ⟨#[x0,x16,ud,ud,(D_1 0),x1,x0,x7,x8,x9,x0,x11,x12,x13,x14,x15,x16,x0,x18,x19,x20,x21,x16,x23,x24,(D_1 2),(D_1 3),(D_1 4),(D_1 5),(D_1 6),(D_1 7),(D_1 8),(D_1 9),(D_1 10),(D_1 11),(D_1 12),(D_1 13),(D_1 14),(D_1 15),(D_1 16),(D_1 17),(D_1 18),ud,ud,ud,ud,ud,ud,ud], []⟩ <| wp_seq <| wp_if rfl H (fun H => ?_) (fun H => ?_)
    ·refine wp_skip <| then_normal <| freq ⟨#[x0,x16,ud,ud,(D_1 0),x1,x0,x7,x8,x9,x0,x11,x12,x13,x14,x15,x16,x0,x18,x19,x20,x21,x16,x23,x24,(D_1 2),(D_1 3),(D_1 4),(D_1 5),(D_1 6),(D_1 7),(D_1 8),(D_1 9),(D_1 10),(D_1 11),(D_1 12),(D_1 13),(D_1 14),(D_1 15),(D_1 16),(D_1 17),(D_1 18),ud,ud,ud,ud,ud,ud,ud], []⟩ <| wp_seq <| wp_block <| wp_seq (lwp_list ?_)
     refine lsmove x23 <| lsassign x23 <| ls_nil (then_normal ?_)
     refine freq ⟨#[x0,x16,ud,ud,x23,x1,x0,x7,x8,x9,x0,x11,x12,x13,x14,x15,x16,x0,x18,x19,x20,x21,x16,x23,x24,x23,(D_1 3),(D_1 4),(D_1 5),(D_1 6),(D_1 7),(D_1 8),(D_1 9),(D_1 10),(D_1 11),(D_1 12),(D_1 13),(D_1 14),(D_1 15),(D_1 16),(D_1 17),(D_1 18),ud,ud,ud,ud,ud,ud,ud], []⟩ ?_
     obtain ⟨C,HC,H⟩ := H
     refine lwpmx (Nat.testBit 39936) (Nat.testBit 3072) (Nat.testBit 25327) [0,0,2,6,14,0,32,96,224,0,992,2016,4094,8191,16383,32767] (Nat.testBit 256) C [0,1,2,3,4,5,6,7,8,9,10,11,12,13,14,15] HA_3 HC fun w_4 HA_4 => lmal x0 26 rfl (almove) <| lmal x0 27 rfl (almove) <| lmp 28 rfl (pnil H) fun x28 H => lmp 29 rfl (poff underlying64 rfl sizeOf26 rfl H) fun x29 H => lmf 30 rfl (cld isAgg26 H) fun x30 H => lmal x0 31 rfl (almove) <| lmp 32 rfl (pnil H) fun x32 H => lmp 33 rfl (poff underlying64 rfl sizeOf54 rfl H) fun x33 H => lmb 34 rfl (yld isAgg54 H) fun x34 H => lmal x23 35 rfl (almove) <| lmdc 36 rfl HA_4 (dcall H) fun x36 h_3 w_5 H HA_5 => lmdc 37 rfl HA_5 (dslit (zc := #[.slice none 0 0]) underlying26 sizeOf32 (by decide) (.inr ⟨by decide,_,zeroValue32,(by kernel_rfl)⟩) H) (fun x37 h_4 w_6 H HA_6 => ?_)
     refine lmd 38 rfl HA_6 (dapp (z := #[.slice none 0 0]) underlying26 underlying26 (.inl ⟨_,rfl⟩) typeInfo32 sizeOf32 zeroValue32 H) fun x38 h_5 w_7 H HA_7 => lmp 39 rfl (pnil H) fun x39 H => lmp 40 rfl (poff underlying64 rfl sizeOf26 rfl H) fun x40 H => lmdn rfl HA_7 (dstw sizeOf26 H) fun _ h_6 w_8 H HA_8 => lm_nil <| block_normal <| then_normal <| freq ⟨#[x0,x16,ud,ud,x23,x1,x0,x7,x8,x9,x0,x11,x12,x13,x14,x15,x16,x0,x18,x19,x20,x21,x16,x23,x24,x23,x0,x0,x28,x29,x30,x0,x32,x33,x34,x23,x36,x37,x38,x39,x40,(D_1 18),ud,ud,ud,ud,ud,ud,ud], []⟩ <| lwp_list <| lsp 41 (padd H) fun x41 H => lsmove x41 <| ls_nil <| ⟨⟨(gd ([x23,x24,x23,x0,x0,x28,x29,x30,x0,x32,x33,x34,x23,x36,x37,x38,x39,x40,x41])),x41,h_6,by kernel_rfl,HA_8,H.1⟩, loop_lt HA_8.heap HA_3.heap (by kernel_rfl) (by kernel_rfl) H.2⟩
    ·refine wp_exit <| then_exit <| then_exit <| block_exit <| ⟨(gd ([(D_1 0),x16,x23,x24] ++ (Ad D_1 2 17 []))),h_2,by kernel_rfl,HA_3,H⟩
  ·refine wp_skip <| ⟨(gd (Ap [] 21)),h,by kernel_rfl,HA,H⟩
 ·rintro _ w_1 ⟨D,h,rfl,HA_1,H⟩
  unfold screen_Screen_scrollUp_j1 at H
  refine then_normal <| freq ⟨#[x0,x16,ud,ud,(D 0),x1,x0,x7,x8,x9,x0,x11,x12,x13,x14,x15,x16,x0,x18,x19,x20,x21,(D 1),(D 2),(D 3),(D 4),(D 5),(D 6),(D 7),(D 8),(D 9),(D 10),(D 11),(D 12),(D 13),(D 14),(D 15),(D 16),(D 17),(D 18),(D 19),(D 20),ud,ud,ud,ud,ud,ud,ud], []⟩ <| lwp_list <| lsmove x0 <| lsmove x0 <| lsp 44 (pnil H) fun x44 H => lsp 45 (poff underlying64 rfl sizeOf3 rfl H) fun x45 H => lsy 46 HA_1 (yld isAgg3 H) fun x46 H => lsmove x16 <| lsd 48 HA_1 (dcall H) fun x48 h_1 w_2 H HA_2 => ls_nil <| end0 (results74) (by kernel_rfl) HA_2 H _ (.inl rfl)

end Go.Proofs.YtmhhjpfkipficaaDoor


end

section
/- The shallow reading of one function, and that the function does it. Written by a program. -/
set_option linter.unusedVariables false
namespace Go.Proofs.YtmhhjpfkipficaaDoor
open Go Go.HW _root_.Go.Proofs.Tryd

def screen_Screen_Line_S (x0 : Value) (h : Heap) (R : Value → Heap → Prop) : Prop :=
  screen_Screen_cur_c x0 h fun x4 h => 
  sNil x4 fun x6 =>
  sOff x6 2 fun x7 =>
  sSt h x7 (.bool false) fun h_1 => 
  sNil x4 fun x9 =>
  sOff x9 1 fun x10 =>
  sLd h_1 x10 fun x11 =>
  sNil x0 fun x13 =>
  sOff x13 20 fun x14 =>
  sLd h_1 x14 fun x15 =>
  sEq x11 x15 fun x16 =>
  sIf x16 (screen_Screen_scrollUp_c x0 (.int .i64 1) h_1 fun x18 h_2 => 
  R unit h_2) (sNil x4 fun x20 =>
  sOff x20 1 fun x21 =>
  sLd h_1 x21 fun x22 =>
  sNil x0 fun x24 =>
  sOff x24 2 fun x25 =>
  sLd h_1 x25 fun x26 =>
  sSub .i64 x26 (.int .i64 1) fun x27 =>
  sLt x22 x27 fun x28 =>
  sIf x28 (sNil x4 fun x30 =>
  sOff x30 1 fun x31 =>
  sLd h_1 x31 fun x32 =>
  sAdd .i64 x32 (.int .i64 1) fun x33 =>
  sNil x4 fun x34 =>
  sOff x34 1 fun x35 =>
  sSt h_1 x35 x33 fun h_3 => 
  R unit h_3) (R unit h_1))
set_option maxRecDepth 100000 in
theorem screen_Screen_Line_runs {x0 : Value} {h : Heap} {R : Value → Heap → Prop} (H : screen_Screen_Line_S x0 h R) : screen_Screen_Line_c x0 h R := by
 unfold screen_Screen_Line_S at H
 refine runsof (b := (mk (Ap [x0] 35))) call38 func38 rfl fun w0 HA => wp_seq (lwp_list ?_)
 refine lsmove x0 <| lsd 4 HA (dcall H) fun x4 h w H HA => lsassign x4 <| ls_nil (then_normal ?_)
 refine freq (mk (Ap [x0,ud,x4,x0,x4] 31)) <| wp_seq (lwp_list ?_)
 refine lsmove x4 <| lsp 6 (pnil H) fun x6 H => lsp 7 (poff underlying38 rfl sizeOf4 rfl H) fun x7 H => lsdn HA (dstw sizeOf4 H) fun _ h_1 w_1 H HA_1 => ls_nil (then_normal ?_)
 refine freq (mk (Ap [x0,ud,x4,x0,x4,x4,x6,x7] 28)) <| wp_seq <| lwpqt HA_1 <| lqmove x4 <| lqp 9 (pnil H) fun x9 H => lqp 10 (poff underlying38 rfl sizeOf3 rfl H) fun x10 H => lqy 11 HA_1 (yld isAgg3 H) fun x11 H => lqmove x0 <| lqp 13 (pnil H) fun x13 H => lqp 14 (poff underlying64 rfl sizeOf3 rfl H) fun x14 H => lqy 15 HA_1 (yld isAgg3 H) fun x15 H => lqp 16 (psEq H) fun x16 H => lq_nil fun w_2 HA_2 => ?_
 refine then_normal <| freq (mk (Ap [x0,ud,x4,x0,x4,x4,x6,x7,x4,x9,x10,x11,x0,x13,x14,x15,x16] 19)) <| wp_if rfl H (fun H => ?_) (fun H => ?_)
 ·refine lwp_list <| lsmove x0 <| lsd 18 HA_2 (dcall H) fun x18 h_2 w_3 H HA_3 => ls_nil <| end0 (results38) (by kernel_rfl) HA_3 H _ (.inl rfl)
 ·refine wp_seq <| lwpqt HA_2 <| lqmove x4 <| lqp 20 (pnil H) fun x20 H => lqp 21 (poff underlying38 rfl sizeOf3 rfl H) fun x21 H => lqy 22 HA_2 (yld isAgg3 H) fun x22 H => lqmove x0 <| lqp 24 (pnil H) fun x24 H => lqp 25 (poff underlying64 rfl sizeOf3 rfl H) fun x25 H => lqy 26 HA_2 (yld isAgg3 H) fun x26 H => lqp 27 (psub H) fun x27 H => lqp 28 (psLt H) fun x28 H => lq_nil fun w_4 HA_4 => ?_
  refine then_normal <| freq (mk (Ap [x0,ud,x4,x0,x4,x4,x6,x7,x4,x9,x10,x11,x0,x13,x14,x15,x16,ud,ud,x4,x20,x21,x22,x0,x24,x25,x26,x27,x28] 7)) <| wp_if rfl H (fun H => ?_) (fun H => ?_)
  ·refine lwp_list <| lsmove x4 <| lsp 30 (pnil H) fun x30 H => lsp 31 (poff underlying38 rfl sizeOf3 rfl H) fun x31 H => lsy 32 HA_4 (yld isAgg3 H) fun x32 H => lsp 33 (padd H) fun x33 H => lsp 34 (pnil H) fun x34 H => lsp 35 (poff underlying38 rfl sizeOf3 rfl H) fun x35 H => lsdn HA_4 (dstw sizeOf3 H) fun _ h_3 w_5 H HA_5 => ls_nil <| end0 (results38) (by kernel_rfl) HA_5 H _ (.inl rfl)
  ·refine wp_skip <| end0 (results38) (by kernel_rfl) HA_4 H _ (.inl rfl)

end Go.Proofs.YtmhhjpfkipficaaDoor


end

section
/- The shallow reading of one function, and that the function does it. Written by a program. -/
set_option linter.unusedVariables false
namespace Go.Proofs.YtmhhjpfkipficaaDoor
open Go Go.HW _root_.Go.Proofs.Tryd

def screen_Screen_wrapped_S (x0 : Value) (h : Heap) (R : Value → Heap → Prop) : Prop :=
  screen_Screen_cur_c x0 h fun x3 h => 
  sNil x3 fun x4 =>
  sOff x4 0 fun x5 =>
  sSt h x5 (.int .i64 0) fun h_1 => 
  screen_Screen_Line_c x0 h_1 fun x7 h_2 => 
  R unit h_2
set_option maxRecDepth 100000 in
theorem screen_Screen_wrapped_runs {x0 : Value} {h : Heap} {R : Value → Heap → Prop} (H : screen_Screen_wrapped_S x0 h R) : screen_Screen_wrapped_c x0 h R := by
 unfold screen_Screen_wrapped_S at H
 refine runsof (b := (mk (Ap [x0] 7))) call31 func31 rfl fun w0 HA => wp_seq (lwp_list ?_)
 refine lsmove x0 <| lsd 3 HA (dcall H) fun x3 h w H HA => lsp 4 (pnil H) fun x4 H => lsp 5 (poff underlying38 rfl sizeOf3 rfl H) fun x5 H => lsdn HA (dstw sizeOf3 H) fun _ h_1 w_1 H HA_1 => ls_nil (then_normal ?_)
 refine freq (mk [x0,ud,x0,x3,x4,x5,ud,ud]) <| lwp_list <| lsmove x0 <| lsd 7 HA_1 (dcall H) fun x7 h_2 w_2 H HA_2 => ls_nil <| end0 (results31) (by kernel_rfl) HA_2 H _ (.inl rfl)

end Go.Proofs.YtmhhjpfkipficaaDoor


end

section
/- The shallow reading of one function, and that the function does it. Written by a program. -/
set_option linter.unusedVariables false
namespace Go.Proofs.YtmhhjpfkipficaaDoor
open Go Go.HW _root_.Go.Proofs.Tryd

def screen_within_S (x0 x1 x2 : Value) (h : Heap) (R : Value → Heap → Prop) : Prop :=
  sMax x0 x1 fun x9 =>
  sMin x9 x2 fun x11 =>
  R x11 h
set_option maxRecDepth 100000 in
theorem screen_within_runs {x0 x1 x2 : Value} {h : Heap} {R : Value → Heap → Prop} (H : screen_within_S x0 x1 x2 h R) : screen_within_c x0 x1 x2 h R := by
 unfold screen_within_S at H
 refine runsof (b := (mk (Ap [x0,x1,x2] 9))) call35 func35 rfl fun w0 HA => wp_seq (lwp_list ?_)
 refine lsassign (.int .i64 0) <| ls_nil (then_normal ?_)
 refine freq (mk (Ap [x0,x1,x2,ud,ud,ud,(.int .i64 0)] 5)) <| wp_seq (lwp_list ?_)
 refine lsmove x0 <| lsmove x1 <| lsp 9 (pmax H) fun x9 H => lsmove x2 <| lsp 11 (pmin H) fun x11 H => lsassign x11 <| ls_nil (then_normal ?_)
 refine freq (mk [x0,x1,x2,ud,ud,ud,x11,x0,x1,x9,x2,x11]) <| wp_ret <| end1 (results35) (by kernel_rfl) (by kernel_rfl) HA H _ (.inr rfl)

end Go.Proofs.YtmhhjpfkipficaaDoor


end

section
/- The shallow reading of one function, and that the function does it. Written by a program. -/
set_option linter.unusedVariables false
namespace Go.Proofs.YtmhhjpfkipficaaDoor
open Go Go.HW _root_.Go.Proofs.Tryd

def screen_add_S (x0 x1 x2 : Value) (h : Heap) (R : Value → Heap → Prop) : Prop :=
  sNeg .i64 x2 fun x10 =>
  screen_within_c x1 x10 x2 h fun x12 h => 
  sAdd .i64 x0 x12 fun x13 =>
  R x13 h
set_option maxRecDepth 100000 in
theorem screen_add_runs {x0 x1 x2 : Value} {h : Heap} {R : Value → Heap → Prop} (H : screen_add_S x0 x1 x2 h R) : screen_add_c x0 x1 x2 h R := by
 unfold screen_add_S at H
 refine runsof (b := (mk (Ap [x0,x1,x2] 11))) call36 func36 rfl fun w0 HA => wp_seq (lwp_list ?_)
 refine lsassign (.int .i64 0) <| ls_nil (then_normal ?_)
 refine freq (mk (Ap [x0,x1,x2,ud,ud,ud,(.int .i64 0)] 7)) <| wp_seq (lwp_list ?_)
 refine lsmove x0 <| lsmove x1 <| lsmove x2 <| lsp 10 (pneg H) fun x10 H => lsmove x2 <| lsd 12 HA (dcall H) fun x12 h w H HA => lsp 13 (padd H) fun x13 H => lsassign x13 <| ls_nil (then_normal ?_)
 refine freq (mk [x0,x1,x2,ud,ud,ud,x13,x0,x1,x2,x10,x2,x12,x13]) <| wp_ret <| end1 (results36) (by kernel_rfl) (by kernel_rfl) HA H _ (.inr rfl)

end Go.Proofs.YtmhhjpfkipficaaDoor


end

section
/- The shallow reading of one function, and that the function does it. Written by a program. -/
set_option linter.unusedVariables false
namespace Go.Proofs.YtmhhjpfkipficaaDoor
open Go Go.HW _root_.Go.Proofs.Tryd

def screen_Screen_Move_j1 (R : Value → Heap → Prop) (x0 x1 x2 x10 x7 x8 : Value) (h_1 : Heap) : Prop :=
  ∃ C : Heap → Prop, C h_1 ∧ (sNil x0 fun x34 =>
  sOff x34 1 fun x35 =>
  sLd h_1 x35 fun x36 =>
  sSub .i64 x36 (.int .i64 1) fun x37 =>
  screen_within_c x1 (.int .i64 0) x37 h_1 fun x38 h_2 => C h_2 ∧ (
  sNil x0 fun x42 =>
  sOff x42 2 fun x43 =>
  sLdC C x43 fun x44 =>
  screen_add_c x7 x2 x44 h_2 fun x45 h_3 => 
  screen_within_c x45 x7 x8 h_3 fun x48 h_4 => 
  sNil x10 fun x49 =>
  sOff x49 0 fun x50 =>
  sSt h_4 x50 x38 fun h_5 => 
  sNil x10 fun x51 =>
  sOff x51 1 fun x52 =>
  sSt h_5 x52 x48 fun h_6 => 
  sNil x10 fun x53 =>
  sOff x53 2 fun x54 =>
  sSt h_6 x54 (.bool false) fun h_7 => 
  R unit h_7))
def screen_Screen_Move_S (x0 x1 x2 : Value) (h : Heap) (R : Value → Heap → Prop) : Prop :=
  screen_Screen_cur_c x0 h fun x10 h => 
  sNil x0 fun x12 =>
  sOff x12 2 fun x13 =>
  sLd h x13 fun x14 =>
  sSub .i64 x14 (.int .i64 1) fun x15 =>
  sNil x0 fun x17 =>
  sOff x17 3 fun x18 =>
  sOff x18 6 fun x19 =>
  sLd h x19 fun x20 =>
  sIf x20 (sNil x0 fun x22 =>
  sOff x22 19 fun x23 =>
  sLd h x23 fun x24 =>
  sNil x0 fun x26 =>
  sOff x26 20 fun x27 =>
  sLd h x27 fun x28 =>
  screen_Screen_Move_j1 R x0 x1 x2 x10 x24 x28 h) (screen_Screen_Move_j1 R x0 x1 x2 x10 (.int .i64 0) x15 h)
set_option maxRecDepth 100000 in
theorem screen_Screen_Move_runs {x0 x1 x2 : Value} {h : Heap} {R : Value → Heap → Prop} (H : screen_Screen_Move_S x0 x1 x2 h R) : screen_Screen_Move_c x0 x1 x2 h R := by
 unfold screen_Screen_Move_S at H
 refine runsof (b := ⟨#[x0,x1,x2,ud,ud,ud,ud,ud,ud,ud,ud,ud,ud,ud,ud,ud,ud,ud,ud,ud,ud,ud,ud,ud,ud,ud,ud,ud,ud,ud,ud,ud,ud,ud,ud,ud,ud,ud,ud,ud,ud,ud,ud,ud,ud,ud,ud,ud,ud,ud,ud,ud,ud,ud,ud], []⟩) call13 func13 rfl fun w0 HA => wp_seq (lwp_list ?_)
 refine lsmove x0 <| lsd 10 HA (dcall H) fun x10 h w H HA => lsassign x10 <| ls_nil (then_normal ?_)
 refine freq ⟨#[x0,x1,x2,ud,ud,ud,x10,ud,ud,x0,x10,ud,ud,ud,ud,ud,ud,ud,ud,ud,ud,ud,ud,ud,ud,ud,ud,ud,ud,ud,ud,ud,ud,ud,ud,ud,ud,ud,ud,ud,ud,ud,ud,ud,ud,ud,ud,ud,ud,ud,ud,ud,ud,ud,ud], []⟩ <| wp_seq <| lwpqt HA <| lqmove x0 <| lqp 12 (pnil H) fun x12 H => lqp 13 (poff underlying64 rfl sizeOf3 rfl H) fun x13 H => lqy 14 HA (yld isAgg3 H) fun x14 H => lqp 15 (psub H) fun x15 H => lqassign (.int .i64 0) <| lqassign x15 <| lq_nil fun w_1 HA_1 => then_normal <| freq ⟨#[x0,x1,x2,ud,ud,ud,x10,(.int .i64 0),x15,x0,x10,x0,x12,x13,x14,x15,ud,ud,ud,ud,ud,ud,ud,ud,ud,ud,ud,ud,ud,ud,ud,ud,ud,ud,ud,ud,ud,ud,ud,ud,ud,ud,ud,ud,ud,ud,ud,ud,ud,ud,ud,ud,ud,ud,ud], []⟩ ?_
 refine wp_seq <| wp_seq (lwp_list ?_)
 refine lsmove x0 <| lsp 17 (pnil H) fun x17 H => lsp 18 (poff underlying64 rfl sizeOf61 rfl H) fun x18 H => lsp 19 (poff underlying61 rfl sizeOf4 rfl H) fun x19 H => lsy 20 HA_1 (yld isAgg4 H) fun x20 H => ls_nil (then_normal ?_)
 refine freq ⟨#[x0,x1,x2,ud,ud,ud,x10,(.int .i64 0),x15,x0,x10,x0,x12,x13,x14,x15,x0,x17,x18,x19,x20,ud,ud,ud,ud,ud,ud,ud,ud,ud,ud,ud,ud,ud,ud,ud,ud,ud,ud,ud,ud,ud,ud,ud,ud,ud,ud,ud,ud,ud,ud,ud,ud,ud,ud], []⟩ <| wp_join (fun a w => ∃ (D : Nat → Value) (x7 x8 : Value) (h_1 : Heap),a = ⟨#[x0,x1,x2,ud,ud,ud,x10,x7,x8,x0,x10,x0,x12,x13,x14,x15,x0,x17,x18,x19,x20,(D 0),(D 1),(D 2),(D 3),(D 4),(D 5),(D 6),(D 7),ud,ud,ud,ud,ud,ud,ud,ud,ud,ud,ud,ud,ud,ud,ud,ud,ud,ud,ud,ud,ud,ud,ud,ud,ud,ud], []⟩ ∧ At w0 w h_1 ∧ screen_Screen_Move_j1 R x0 x1 x2 x10 x7 x8 h_1) ?_ ?_
 ·refine wp_if rfl H (fun H => ?_) (fun H => ?_)
  ·refine lwpqt HA_1 <| lqmove x0 <| lqp 22 (pnil H) fun x22 H => lqp 23 (poff underlying64 rfl sizeOf3 rfl H) fun x23 H => lqy 24 HA_1 (yld isAgg3 H) fun x24 H => lqmove x0 <| lqp 26 (pnil H) fun x26 H => lqp 27 (poff underlying64 rfl sizeOf3 rfl H) fun x27 H => lqy 28 HA_1 (yld isAgg3 H) fun x28 H => lqassign x24 <| lqassign x28 <| lq_nil fun w_10 HA_10 => ⟨(gd ([x0,x22,x23,x24,x0,x26,x27,x28])),x24,x28,h,by kernel_rfl,HA_10,H⟩
  ·refine wp_skip <| ⟨(gd (Ap [] 8)),(.int .i64 0),x15,h,by kernel_rfl,HA_1,H⟩
 ·rintro _ w_2 ⟨D,x7,x8,h_1,rfl,HA_2,H⟩
  unfold screen_Screen_Move_j1 at H
  refine then_normal <| freq ⟨#[x0,x1,x2,ud,ud,ud,x10,x7,x8,x0,x10,x0,x12,x13,x14,x15,x0,x17,x18,x19,x20,(D 0),(D 1),(D 2),(D 3),(D 4),(D 5),(D 6),(D 7),ud,ud,ud,ud,ud,ud,ud,ud,ud,ud,ud,ud,ud,ud,ud,ud,ud,ud,ud,ud,ud,ud,ud,ud,ud,ud], []⟩ ?_
  obtain ⟨C,HC,H⟩ := H
  refine lwpmx (Nat.testBit 306774528) (Nat.testBit 512) (Nat.testBit 230063487) [0,0,0,0,0,16,48,112,240,504,0,0,0,4096,12288,28672,65528,0,0,524280,1048569,2097145,4194297,8388603,16777211,33554427,67108863,134217727,268435455] (Nat.testBit 128) C [0,1,2,3,4,5,6,7,8,9,10,11,12,13,14,15,16,17,18,19,20,21,22,23,24,25,26,27,28] HA_2 HC fun w_3 HA_3 => lmal x10 29 rfl (almove) <| lmal x10 30 rfl (almove) <| lmal x10 31 rfl (almove) <| lmal x1 32 rfl (almove) <| lmal x0 33 rfl (almove) <| lmp 34 rfl (pnil H) fun x34 H => lmp 35 rfl (poff underlying64 rfl sizeOf3 rfl H) fun x35 H => lmb 36 rfl (yld isAgg3 H) fun x36 H => lmp 37 rfl (psub H) fun x37 H => lmdc 38 rfl HA_3 (dcall H) fun x38 h_2 w_4 H HA_4 => lmal x7 39 rfl (almove) <| lmal x2 40 rfl (almove) ?_
  refine lmal x0 41 rfl (almove) <| lmp 42 rfl (pnil H) fun x42 H => lmp 43 rfl (poff underlying64 rfl sizeOf3 rfl H) fun x43 H => lmf 44 rfl (cld isAgg3 H) fun x44 H => lmd 45 rfl HA_4 (dcall H) fun x45 h_3 w_5 H HA_5 => lmal x7 46 rfl (almove) <| lmal x8 47 rfl (almove) <| lmd 48 rfl HA_5 (dcall H) fun x48 h_4 w_6 H HA_6 => lmp 49 rfl (pnil H) fun x49 H => lmp 50 rfl (poff underlying38 rfl sizeOf3 rfl H) fun x50 H => lmdn rfl HA_6 (dstw sizeOf3 H) fun _ h_5 w_7 H HA_7 => lmp 51 rfl (pnil H) fun x51 H => lmp 52 rfl (poff underlying38 rfl sizeOf3 rfl H) fun x52 H => lmdn rfl HA_7 (dstw sizeOf3 H) (fun _ h_6 w_8 H HA_8 => ?_)
  refine lmp 53 rfl (pnil H) fun x53 H => lmp 54 rfl (poff underlying38 rfl sizeOf4 rfl H) fun x54 H => lmdn rfl HA_8 (dstw sizeOf4 H) fun _ h_7 w_9 H HA_9 => lm_nil <| end0 (results13) (by kernel_rfl) HA_9 H _ (.inl rfl)

end Go.Proofs.YtmhhjpfkipficaaDoor


end

section
/- The shallow reading of one function, and that the function does it. Written by a program. -/
set_option linter.unusedVariables false
namespace Go.Proofs.YtmhhjpfkipficaaDoor
open Go Go.HW _root_.Go.Proofs.Tryd

def screen_Screen_Shift_j2 (R : Value → Heap → Prop) (x0 x1 x2 x10 x7 x8 : Value) (h_2 : Heap) : Prop :=
  ∃ C : Heap → Prop, C h_2 ∧ (sNil x10 fun x46 =>
  sOff x46 0 fun x47 =>
  sLd h_2 x47 fun x48 =>
  sNil x0 fun x51 =>
  sOff x51 1 fun x52 =>
  sLd h_2 x52 fun x53 =>
  screen_add_c x48 x1 x53 h_2 fun x54 h_3 => C h_3 ∧ (
  sNil x0 fun x56 =>
  sOff x56 1 fun x57 =>
  sLdC C x57 fun x58 =>
  sSub .i64 x58 (.int .i64 1) fun x59 =>
  screen_within_c x54 (.int .i64 0) x59 h_3 fun x60 h_4 => C h_4 ∧ (
  sNil x10 fun x62 =>
  sOff x62 1 fun x63 =>
  sLdC C x63 fun x64 =>
  sNil x0 fun x67 =>
  sOff x67 2 fun x68 =>
  sLdC C x68 fun x69 =>
  screen_add_c x64 x2 x69 h_4 fun x70 h_5 => 
  screen_within_c x70 x7 x8 h_5 fun x73 h_6 => 
  sNil x10 fun x74 =>
  sOff x74 0 fun x75 =>
  sSt h_6 x75 x60 fun h_7 => 
  sNil x10 fun x76 =>
  sOff x76 1 fun x77 =>
  sSt h_7 x77 x73 fun h_8 => 
  sNil x10 fun x78 =>
  sOff x78 2 fun x79 =>
  sSt h_8 x79 (.bool false) fun h_9 => 
  R unit h_9)))
def screen_Screen_Shift_j1 (R : Value → Heap → Prop) (x0 x1 x2 x10 x15 x7 : Value) (h_1 : Heap) : Prop :=
  sNil x10 fun x30 =>
  sOff x30 1 fun x31 =>
  sLd h_1 x31 fun x32 =>
  sNil x0 fun x34 =>
  sOff x34 20 fun x35 =>
  sLd h_1 x35 fun x36 =>
  sLe x32 x36 fun x37 =>
  sIf x37 (sNil x0 fun x39 =>
  sOff x39 20 fun x40 =>
  sLd h_1 x40 fun x41 =>
  screen_Screen_Shift_j2 R x0 x1 x2 x10 x7 x41 h_1) (screen_Screen_Shift_j2 R x0 x1 x2 x10 x7 x15 h_1)
def screen_Screen_Shift_S (x0 x1 x2 : Value) (h : Heap) (R : Value → Heap → Prop) : Prop :=
  screen_Screen_cur_c x0 h fun x10 h => 
  sNil x0 fun x12 =>
  sOff x12 2 fun x13 =>
  sLd h x13 fun x14 =>
  sSub .i64 x14 (.int .i64 1) fun x15 =>
  sNil x10 fun x17 =>
  sOff x17 1 fun x18 =>
  sLd h x18 fun x19 =>
  sNil x0 fun x21 =>
  sOff x21 19 fun x22 =>
  sLd h x22 fun x23 =>
  sGe x19 x23 fun x24 =>
  sIf x24 (sNil x0 fun x26 =>
  sOff x26 19 fun x27 =>
  sLd h x27 fun x28 =>
  screen_Screen_Shift_j1 R x0 x1 x2 x10 x15 x28 h) (screen_Screen_Shift_j1 R x0 x1 x2 x10 x15 (.int .i64 0) h)
set_option maxRecDepth 100000 in
theorem screen_Screen_Shift_runs {x0 x1 x2 : Value} {h : Heap} {R : Value → Heap → Prop} (H : screen_Screen_Shift_S x0 x1 x2 h R) : screen_Screen_Shift_c x0 x1 x2 h R := by
 unfold screen_Screen_Shift_S at H
 refine runsof (b := (mk (Ap [x0,x1,x2] 77))) call15 func15 rfl fun w0 HA => wp_seq (lwp_list ?_)
 refine lsmove x0 <| lsd 10 HA (dcall H) fun x10 h w H HA => lsassign x10 <| ls_nil (then_normal ?_)
 refine freq (mk (Ap [x0,x1,x2,ud,ud,ud,x10,ud,ud,x0,x10] 69)) <| wp_seq <| lwpqt HA <| lqmove x0 <| lqp 12 (pnil H) fun x12 H => lqp 13 (poff underlying64 rfl sizeOf3 rfl H) fun x13 H => lqy 14 HA (yld isAgg3 H) fun x14 H => lqp 15 (psub H) fun x15 H => lqassign (.int .i64 0) <| lqassign x15 <| lq_nil fun w_1 HA_1 => then_normal <| freq (mk (Ap [x0,x1,x2,ud,ud,ud,x10,(.int .i64 0),x15,x0,x10,x0,x12,x13,x14,x15] 64)) ?_
 refine wp_seq <| wp_seq <| lwpqt HA_1 <| lqmove x10 <| lqp 17 (pnil H) fun x17 H => lqp 18 (poff underlying38 rfl sizeOf3 rfl H) fun x18 H => lqy 19 HA_1 (yld isAgg3 H) fun x19 H => lqmove x0 <| lqp 21 (pnil H) fun x21 H => lqp 22 (poff underlying64 rfl sizeOf3 rfl H) fun x22 H => lqy 23 HA_1 (yld isAgg3 H) fun x23 H => lqp 24 (psGe H) fun x24 H => lq_nil fun w_2 HA_2 => ?_
 refine then_normal <| freq (mk (Ap [x0,x1,x2,ud,ud,ud,x10,(.int .i64 0),x15,x0,x10,x0,x12,x13,x14,x15,x10,x17,x18,x19,x0,x21,x22,x23,x24] 55)) <| wp_join (fun a w => ∃ (D : Nat → Value) (x7 : Value) (h_1 : Heap),a = (mk ([x0,x1,x2,ud,ud,ud,x10,x7,x15,x0,x10,x0,x12,x13,x14,x15,x10,x17,x18,x19,x0,x21,x22,x23,x24] ++ (Ad D 0 4 (Ap [] 51)))) ∧ At w0 w h_1 ∧ screen_Screen_Shift_j1 R x0 x1 x2 x10 x15 x7 h_1) ?_ ?_
 ·refine wp_if rfl H (fun H => ?_) (fun H => ?_)
  ·refine lwp_list <| lsmove x0 <| lsp 26 (pnil H) fun x26 H => lsp 27 (poff underlying64 rfl sizeOf3 rfl H) fun x27 H => lsy 28 HA_2 (yld isAgg3 H) fun x28 H => lsassign x28 <| ls_nil <| ⟨(gd ([x0,x26,x27,x28])),x28,h,by kernel_rfl,HA_2,H⟩
  ·refine wp_skip <| ⟨(gd ([ud,ud,ud,ud])),(.int .i64 0),h,by kernel_rfl,HA_2,H⟩
 ·rintro _ w_3 ⟨D,x7,h_1,rfl,HA_3,H⟩
  unfold screen_Screen_Shift_j1 at H
  refine then_normal <| freq (mk ([x0,x1,x2,ud,ud,ud,x10,x7,x15,x0,x10,x0,x12,x13,x14,x15,x10,x17,x18,x19,x0,x21,x22,x23,x24] ++ (Ad D 0 4 (Ap [] 51)))) <| wp_seq <| wp_seq <| lwpqt HA_3 <| lqmove x10 <| lqp 30 (pnil H) fun x30 H => lqp 31 (poff underlying38 rfl sizeOf3 rfl H) fun x31 H => lqy 32 HA_3 (yld isAgg3 H) fun x32 H => lqmove x0 <| lqp 34 (pnil H) fun x34 H => lqp 35 (poff underlying64 rfl sizeOf3 rfl H) fun x35 H => lqy 36 HA_3 (yld isAgg3 H) fun x36 H => lqp 37 (psLe H) (fun x37 H => ?_)
  refine lq_nil fun w_4 HA_4 => then_normal <| freq (mk ([x0,x1,x2,ud,ud,ud,x10,x7,x15,x0,x10,x0,x12,x13,x14,x15,x10,x17,x18,x19,x0,x21,x22,x23,x24] ++ (Ad D 0 4 (Ap [x10,x30,x31,x32,x0,x34,x35,x36,x37] 42)))) <| wp_join (fun a w => ∃ (D_1 : Nat → Value) (x8 : Value) (h_2 : Heap),a = (mk ([x0,x1,x2,ud,ud,ud,x10,x7,x8,x0,x10,x0,x12,x13,x14,x15,x10,x17,x18,x19,x0,x21,x22,x23,x24] ++ (Ad D 0 4 ([x10,x30,x31,x32,x0,x34,x35,x36,x37] ++ (Ad D_1 0 4 (Ap [] 38)))))) ∧ At w0 w h_2 ∧ screen_Screen_Shift_j2 R x0 x1 x2 x10 x7 x8 h_2) ?_ ?_
  ·refine wp_if rfl H (fun H => ?_) (fun H => ?_)
   ·refine lwp_list <| lsmove x0 <| lsp 39 (pnil H) fun x39 H => lsp 40 (poff underlying64 rfl sizeOf3 rfl H) fun x40 H => lsy 41 HA_4 (yld isAgg3 H) fun x41 H => lsassign x41 <| ls_nil <| ⟨(gd ([x0,x39,x40,x41])),x41,h_1,by kernel_rfl,HA_4,H⟩
   ·refine wp_skip <| ⟨(gd ([ud,ud,ud,ud])),x15,h_1,by kernel_rfl,HA_4,H⟩
  ·rintro _ w_5 ⟨D_1,x8,h_2,rfl,HA_5,H⟩
   unfold screen_Screen_Shift_j2 at H
   refine then_normal <| freq (mk ([x0,x1,x2,ud,ud,ud,x10,x7,x8,x0,x10,x0,x12,x13,x14,x15,x10,x17,x18,x19,x0,x21,x22,x23,x24] ++ (Ad D 0 4 ([x10,x30,x31,x32,x0,x34,x35,x36,x37] ++ (Ad D_1 0 4 (Ap [] 38)))))) ?_
   obtain ⟨C,HC,H⟩ := H
   refine lwpmx (Nat.testBit 1256546635776) (Nat.testBit 266240) (Nat.testBit 942338140095) [0,0,0,0,8,24,56,0,0,256,768,1792,4088,0,8192,24576,57344,122880,262136,0,524288,1572864,3670016,0,0,16777216,50331648,117440512,268435448,0,0,2147483640,4294967289,8589934585,17179869177,34359738363,68719476731,137438953467,274877906943,549755813887,1099511627775] (Nat.testBit 2112) C [0,1,2,3,4,5,6,7,8,9,10,11,12,13,14,15,16,17,18,19,20,21,22,23,24,25,26,27,28,29,30,31,32,33,34,35,36,37,38,39,40] HA_5 HC fun w_6 HA_6 => lmal x10 42 rfl (almove) <| lmal x10 43 rfl (almove) <| lmal x10 44 rfl (almove) <| lmal x10 45 rfl (almove) <| lmp 46 rfl (pnil H) fun x46 H => lmp 47 rfl (poff underlying38 rfl sizeOf3 rfl H) fun x47 H => lmb 48 rfl (yld isAgg3 H) fun x48 H => lmal x1 49 rfl (almove) <| lmal x0 50 rfl (almove) <| lmp 51 rfl (pnil H) fun x51 H => lmp 52 rfl (poff underlying64 rfl sizeOf3 rfl H) fun x52 H => lmb 53 rfl (yld isAgg3 H) (fun x53 H => ?_)
   refine lmdc 54 rfl HA_6 (dcall H) fun x54 h_3 w_7 H HA_7 => lmal x0 55 rfl (almove) <| lmp 56 rfl (pnil H) fun x56 H => lmp 57 rfl (poff underlying64 rfl sizeOf3 rfl H) fun x57 H => lmf 58 rfl (cld isAgg3 H) fun x58 H => lmp 59 rfl (psub H) fun x59 H => lmdc 60 rfl HA_7 (dcall H) fun x60 h_4 w_8 H HA_8 => lmal x10 61 rfl (almove) <| lmp 62 rfl (pnil H) fun x62 H => lmp 63 rfl (poff underlying38 rfl sizeOf3 rfl H) fun x63 H => lmf 64 rfl (cld isAgg3 H) fun x64 H => lmal x2 65 rfl (almove) <| lmal x0 66 rfl (almove) <| lmp 67 rfl (pnil H) (fun x67 H => ?_)
   refine lmp 68 rfl (poff underlying64 rfl sizeOf3 rfl H) fun x68 H => lmf 69 rfl (cld isAgg3 H) fun x69 H => lmd 70 rfl HA_8 (dcall H) fun x70 h_5 w_9 H HA_9 => lmal x7 71 rfl (almove) <| lmal x8 72 rfl (almove) <| lmd 73 rfl HA_9 (dcall H) fun x73 h_6 w_10 H HA_10 => lmp 74 rfl (pnil H) fun x74 H => lmp 75 rfl (poff underlying38 rfl sizeOf3 rfl H) fun x75 H => lmdn rfl HA_10 (dstw sizeOf3 H) fun _ h_7 w_11 H HA_11 => lmp 76 rfl (pnil H) fun x76 H => lmp 77 rfl (poff underlying38 rfl sizeOf3 rfl H) fun x77 H => lmdn rfl HA_11 (dstw sizeOf3 H) fun _ h_8 w_12 H HA_12 => lmp 78 rfl (pnil H) fun x78 H => lmp 79 rfl (poff underlying38 rfl sizeOf4 rfl H) (fun x79 H => ?_)
   refine lmdn rfl HA_12 (dstw sizeOf4 H) fun _ h_9 w_13 H HA_13 => lm_nil <| end0 (results15) (by kernel_rfl) HA_13 H _ (.inl rfl)

end Go.Proofs.YtmhhjpfkipficaaDoor


end

section
/- The shallow reading of one function, and that the function does it. Written by a program. -/
set_option linter.unusedVariables false
namespace Go.Proofs.YtmhhjpfkipficaaDoor
open Go Go.HW _root_.Go.Proofs.Tryd

def screen_Screen_Cursor_S (x0 : Value) (h : Heap) (R : Value → Heap → Prop) : Prop :=
  sNew h #[.int .i64 0, .int .i64 0, .bool false] 38 fun x2 h => 
  sNil x0 fun x4 =>
  sOff x4 3 fun x5 =>
  sOff x5 0 fun x6 =>
  sLdN h x6 3 fun x7 =>
  sStN h x2 x7 3 fun h_1 => 
  sLdN h_1 x2 3 fun r2 =>
  R r2 h_1
set_option maxRecDepth 100000 in
theorem screen_Screen_Cursor_runs {x0 : Value} {h : Heap} {R : Value → Heap → Prop} (H : screen_Screen_Cursor_S x0 h R) : screen_Screen_Cursor_c x0 h R := by
 unfold screen_Screen_Cursor_S at H
 refine runsof (b := (mk (Ap [x0] 7))) call14 func14 rfl fun w0 HA => wp_seq (lwp_list ?_)
 refine lsd 2 HA (d_alloc zeroValue38 H) fun x2 h w H HA => ls_nil (then_normal ?_)
 refine freq (mk (Ap [x0,ud,x2] 5)) <| wp_seq (lwp_list ?_)
 refine lsmove x0 <| lsp 4 (pnil H) fun x4 H => lsp 5 (poff underlying64 rfl sizeOf61 rfl H) fun x5 H => lsp 6 (poff underlying61 rfl sizeOf38 rfl H) fun x6 H => lsy 7 HA (yldn isAgg38 sizeOf38 H) fun x7 H => lsdn HA (dstn sizeOf38 H) fun _ h_1 w_1 H HA_1 => ls_nil (then_normal ?_)
 refine freq (mk [x0,ud,x2,x0,x4,x5,x6,x7]) <| wp_ret ?_
 obtain ⟨r2,hr2,H⟩ := ld_n isAgg38 sizeOf38 H
 exact endR (vs := [r2]) (results14) (by kernel_rfl) ⟨⟨_,(by kernel_rfl),hr2⟩, trivial⟩ HA_1 H _ (.inr rfl)

end Go.Proofs.YtmhhjpfkipficaaDoor


end

section
/- The shallow reading of one function, and that the function does it. Written by a program. -/
set_option linter.unusedVariables false
namespace Go.Proofs.YtmhhjpfkipficaaDoor
open Go Go.HW _root_.Go.Proofs.Tryd

def screen_Screen_At_S (x0 x1 x2 : Value) (h : Heap) (R : Value → Heap → Prop) : Prop :=
  sNew h #[.int .i32 0, .int .i64 0, .int .i64 0, .int .i64 0] 31 fun x6 h => 
  sNil x0 fun x8 =>
  sOff x8 0 fun x9 =>
  sLd h x9 fun x10 =>
  grid_Grid_At_c x10 x1 x2 h fun x13 h_1 => 
  sStN h_1 x6 x13 4 fun h_2 => 
  sLdN h_2 x6 4 fun r6 =>
  R r6 h_2
set_option maxRecDepth 100000 in
theorem screen_Screen_At_runs {x0 x1 x2 : Value} {h : Heap} {R : Value → Heap → Prop} (H : screen_Screen_At_S x0 x1 x2 h R) : screen_Screen_At_c x0 x1 x2 h R := by
 unfold screen_Screen_At_S at H
 refine runsof (b := (mk (Ap [x0,x1,x2] 11))) call11 func11 rfl fun w0 HA => wp_seq (lwp_list ?_)
 refine lsd 6 HA (d_alloc zeroValue31 H) fun x6 h w H HA => ls_nil (then_normal ?_)
 refine freq (mk (Ap [x0,x1,x2,ud,ud,ud,x6] 7)) <| wp_seq (lwp_list ?_)
 refine lsmove x0 <| lsp 8 (pnil H) fun x8 H => lsp 9 (poff underlying64 rfl sizeOf54 rfl H) fun x9 H => lsy 10 HA (yld isAgg54 H) fun x10 H => lsmove x1 <| lsmove x2 <| lsd 13 HA (dcall H) fun x13 h_1 w_1 H HA_1 => lsdn HA_1 (dstn sizeOf31 H) fun _ h_2 w_2 H HA_2 => ls_nil (then_normal ?_)
 refine freq (mk [x0,x1,x2,ud,ud,ud,x6,x0,x8,x9,x10,x1,x2,x13]) <| wp_ret ?_
 obtain ⟨r6,hr6,H⟩ := ld_n isAgg31 sizeOf31 H
 exact endR (vs := [r6]) (results11) (by kernel_rfl) ⟨⟨_,(by kernel_rfl),hr6⟩, trivial⟩ HA_2 H _ (.inr rfl)

end Go.Proofs.YtmhhjpfkipficaaDoor


end

section
/- The shallow reading of one function, and that the function does it. Written by a program. -/
set_option linter.unusedVariables false
namespace Go.Proofs.YtmhhjpfkipficaaDoor
open Go Go.HW _root_.Go.Proofs.Tryd

end Go.Proofs.YtmhhjpfkipficaaDoor


end

section
/- Screens: the state, and what the inner functions come to. -/
set_option linter.unusedSimpArgs false
set_option linter.unusedVariables false
namespace Go.Proofs.YtmhhjpfkipficaaDoor
open Go Go.HW

structure Sc where
  w : Int
  g : Int
  x : Int
  y : Int
  late : Bool
  pf : Int
  pb : Int
  pg : Int
  org : Bool
  x' : Int
  y' : Int
  late' : Bool
  pf' : Int
  pb' : Int
  pg' : Int
  org' : Bool
  wrap : Bool
  ins : Bool
  top : Int
  bot : Int
  st : List Bool
def scH (m : Sc) (kg : Nat) : List Value := [ptr kg 0, .int .i64 m.w, .int .i64 m.g, .int .i64 m.x, .int .i64 m.y, .bool m.late, .int .i64 m.pf, .int .i64 m.pb, .int .i64 m.pg, .bool m.org, .int .i64 m.x', .int .i64 m.y', .bool m.late', .int .i64 m.pf', .int .i64 m.pb', .int .i64 m.pg', .bool m.org', .bool m.wrap, .bool m.ins, .int .i64 m.top, .int .i64 m.bot]
def scL (m : Sc) (kg : Nat) (ov : Value) : List Value := scH m kg ++ (m.st.map Value.bool ++ [ov])
theorem sc_len (m : Sc) (kg : Nat) (ov : Value) : (scL m kg ov).length = m.st.length + 22 := by simp [scL, scH]
abbrev Cel := Int → Int → Ce
def Scr (k : Nat) (m : Sc) (C : Cel) (off : List (List Ce)) : HP := HP.ex fun p : (Nat × Value) × {rs : List (CV × List Ce) // rs.map (·.2) = off ∧ m.st.length = 512} => HP.all [Blk k (scL m p.1.1 p.1.2).toArray 64, Gc p.1.1 m.w m.g C, Sl encCV 1 p.1.2 (p.2.1.map (·.1)), rowsP p.2.1]
def upF (C : Cel) (w g top bot n : Int) (bl : Ce) : Cel := fun x y => if inG w g x y = true ∧ top ≤ y ∧ y ≤ bot then (if y + n ≤ bot then C x (y + n) else bl) else C x y
def Sc.bl (m : Sc) : Ce := ⟨0, 0, m.pb, 0⟩
def mnI (a b : Int) : Int := if b < a then b else a
def mxI (a b : Int) : Int := if a < b then b else a
def withI (n low high : Int) : Int := mnI (mxI n low) high

section
variable {h0 h : Heap} {F : List HP} {R : Value → Heap → Prop} {k kg : Nat} {m : Sc} {C : Cel} {off : List (List Ce)}
theorem Sopen (z : HW.Sep h0 (Scr k m C off :: F) h) : ∃ kg ov, ∃ rs : List (CV × List Ce), rs.map (·.2) = off ∧ m.st.length = 512 ∧ HW.Sep h0 (Blk k (scL m kg ov).toArray 64 :: Gc kg m.w m.g C :: Sl encCV 1 ov (rs.map (·.1)) :: rowsP rs :: F) h := by
  obtain ⟨⟨⟨kg, ov⟩, ⟨rs, e, es⟩⟩, s⟩ := z.open_ex
  exact ⟨kg, ov, rs, e, es, s.open_all⟩
theorem Sshut {ov : Value} {rs : List (CV × List Ce)} (e : rs.map (·.2) = off) (es : m.st.length = 512) (s : HW.Sep h0 (Blk k (scL m kg ov).toArray 64 :: Gc kg m.w m.g C :: Sl encCV 1 ov (rs.map (·.1)) :: rowsP rs :: F) h) : HW.Sep h0 (Scr k m C off :: F) h :=
  Sep.shut_ex (A := fun p : (Nat × Value) × {rs : List (CV × List Ce) // rs.map (·.2) = off ∧ m.st.length = 512} => HP.all [Blk k (scL m p.1.1 p.1.2).toArray 64, Gc p.1.1 m.w m.g C, Sl encCV 1 p.1.2 (p.2.1.map (·.1)), rowsP p.2.1]) ⟨(kg, ov), ⟨rs, e, es⟩⟩ (Sep.shut_all (L := [_, _, _, _]) s)
theorem stL {b o t : Nat} {l : List Value} {v : Value} {K : Heap → Prop} (s : HW.Sep h0 (Blk b l.toArray t :: F) h) (ho : o < l.length) (h3 : Cell1 v) (H : ∀ h', HW.Sep h0 (Blk b (l.set o v).toArray t :: F) h' → K h') : sSt h (ptr b o) v K :=
  s.st (by simpa using ho) h3 (fun h' s' => H h' (by simpa using s'))
theorem ldL {b o t : Nat} {l : List Value} {v : Value} {K : Value → Prop} (b' : h.has b l.toArray t) (hv : l[o]? = some v) : sLd h (ptr b o) K = K v := ev_ld_has b' (by rw [List.getElem?_toArray]; exact hv)
theorem mld {o : Nat} {v : Value} {K : Value → Prop} (z : HW.Sep h0 (Scr k m C off :: F) h) (hv : ∀ kg ov, (scL m kg ov)[o]? = some v) : sLd h (ptr k o) K = K v := by
  obtain ⟨kg, ov, rs, e, es, so⟩ := Sopen z
  exact ldL so.has (hv kg ov)
theorem mst {o : Nat} {v : Value} {m' : Sc} {K : Heap → Prop} (z : HW.Sep h0 (Scr k m C off :: F) h) (ho : o < 21) (hv : Cell1 v) (e : ∀ kg ov, (scL m kg ov).set o v = scL m' kg ov) (ew : m'.w = m.w) (eg : m'.g = m.g) (es : m'.st = m.st) (HK : ∀ h', HW.Sep h0 (Scr k m' C off :: F) h' → K h') : sSt h (ptr k o) v K := by
  obtain ⟨kg, ov, rs, e', es', so⟩ := Sopen z
  refine stL so (by rw [sc_len]; omega) hv (fun h' s' => HK h' ?_)
  rw [e] at s'
  have s2 : HW.Sep h0 (Blk k (scL m' kg ov).toArray 64 :: Gc kg m'.w m'.g C :: Sl encCV 1 ov (rs.map (·.1)) :: rowsP rs :: F) h' := by rw [ew, eg]; exact s'
  exact Sshut e' (by rw [es]; exact es') s2
theorem Ssz (z : HW.Sep h0 (Scr k m C off :: F) h) : (1 ≤ m.w ∧ m.w ≤ 512) ∧ (1 ≤ m.g ∧ m.g ≤ 512) := by
  obtain ⟨kg, ov, rs, e, es, so⟩ := Sopen z
  exact Gsz so.b1
theorem Sout (z : HW.Sep h0 (Scr k m C off :: F) h) {x y : Int} (hn : ¬ inG m.w m.g x y = true) : C x y = ce0 := by
  obtain ⟨kg, ov, rs, e, es, so⟩ := Sopen z
  exact Gout so.b1 hn
theorem cur_spec (H : R (ptr k 3) h) : screen_Screen_cur_c (ptr k 0) h R := by
  apply screen_Screen_cur_runs
  unfold screen_Screen_cur_S
  simp only [ev_nil, ev_off, Nat.zero_add, Nat.add_zero]
  exact H
theorem within_i {n low high : Int} (H : R (.int .i64 (withI n low high)) h) : screen_within_c (.int .i64 n) (.int .i64 low) (.int .i64 high) h R := by
  apply screen_within_runs
  unfold screen_within_S
  rw [ev_max, ev_min]
  exact H
theorem add_i {n d far : Int} (hf : 0 ≤ far ∧ far ≤ 1000) (hn : -100000 ≤ n ∧ n ≤ 100000) (H : R (.int .i64 (n + withI d (-far) far)) h) : screen_add_c (.int .i64 n) (.int .i64 d) (.int .i64 far) h R := by
  apply screen_add_runs
  unfold screen_add_S
  rw [ev_neg, show (0 : Int) - far = -far by omega, wrap_i64 (by omega) (by omega)]
  refine within_i ?_
  have : -1000 ≤ withI d (-far) far ∧ withI d (-far) far ≤ 1000 := by unfold withI mnI mxI; split <;> split <;> omega
  rw [ev_add, wrap_i64 (by omega) (by omega)]
  exact H
theorem blank_b {ov : Value} (b : h.has k (scL m kg ov).toArray 64) (H : ∀ h', Ext h h' → R (.agg m.bl.a) h') : screen_Screen_blank_c (ptr k 0) h R := by
  apply screen_Screen_blank_runs
  unfold screen_Screen_blank_S
  refine (HW.Sep.start h).new (fun k2 h1 s1 => ?_)
  have f7 : ∀ {K : Value → Prop}, sLd h1 (ptr k 7) K = K (.int .i64 m.pb) := ldL (s1.ext.has b) rfl
  simp only [ev_nil, ev_off, Nat.zero_add, Nat.add_zero, f7]
  refine build_intro (cs := #[.int .i64 0, .int .i64 m.pb, .int .i64 0]) ⟨rfl, Nat.le_of_ble_eq_true rfl, rfl⟩ ?_
  refine build_intro (cs := m.bl.a) ⟨rfl, Nat.le_of_ble_eq_true rfl, rfl⟩ ?_
  refine s1.stall (cs := m.bl.a) rfl rfl (ce_cell _) (fun h2 s2 => ?_)
  rw [s2.ldall (n := 4) rfl]
  exact H h2 s2.ext
theorem up_eq {w g top bot n : Int} {bl : Ce} (hw : 1 ≤ w ∧ w ≤ 512) (hg : 1 ≤ g ∧ g ≤ 512) (ht : 0 ≤ top ∧ bot < g) (hn : 1 ≤ n ∧ n ≤ bot - top + 1) (ho : ∀ x y, ¬ inG w g x y = true → C x y = ce0) : fillF (copyF C w g ⟨0, top + n, w, bot - top + 1 - n⟩ 0 top) w g ⟨0, bot + 1 - n, w, n⟩ bl = upF C w g top bot n bl := by
  funext x y
  have hr : (⟨0, bot + 1 - n, w, n⟩ : Rc).right = true := (Rc.right_iff _).2 (by unfold Rc.Ok; simp only; omega)
  unfold fillF copyF upF Rc.has
  rw [hr]
  simp only [true_and, Int.zero_add, Int.add_zero, Int.sub_zero]
  by_cases hi : inG w g x y = true
  · have h2 := inG_iff.1 hi
    by_cases hy : top ≤ y ∧ y ≤ bot
    · by_cases hb : y + n ≤ bot
      · rw [if_neg (by omega), if_pos (by omega), if_pos ⟨hi, hy⟩, if_pos hb]
        congr 1; omega
      · rw [if_pos ⟨by omega, hi⟩, if_pos ⟨hi, hy⟩, if_neg hb]
    · rw [if_neg (by omega), if_neg (by omega), if_neg (fun h => hy h.2)]
  · rw [if_neg (fun h => hi h.2)]
    rw [if_neg (show ¬(inG w g x y = true ∧ top ≤ y ∧ y ≤ bot) from fun h => hi h.1)]
    split
    · rename_i hh
      exact (hi (inG_iff.2 ⟨by omega, by omega⟩)).elim
    · rfl
theorem up_spec {top n : Int} (z : HW.Sep h0 (Scr k m C off :: F) h) (ht : 0 ≤ top ∧ top ≤ m.bot ∧ m.bot < m.g) (H : ∀ h', HW.Sep h0 (Scr k m (if mnI n (m.bot - top + 1) < 1 then C else upF C m.w m.g top m.bot (mnI n (m.bot - top + 1)) m.bl) off :: F) h' → R unit h') : screen_Screen_up_c (ptr k 0) (.int .i64 top) (.int .i64 n) h R := by
  apply screen_Screen_up_runs
  unfold screen_Screen_up_S
  have sz := Ssz z
  have ho := fun x y => Sout z (x := x) (y := y)
  obtain ⟨kg, ov, rs, e, es, so⟩ := Sopen z
  have b := so.has
  have f20 : ∀ {K : Value → Prop}, sLd h (ptr k 20) K = K (.int .i64 m.bot) := ldL b rfl
  have f0 : ∀ {K : Value → Prop}, sLd h (ptr k 0) K = K (ptr kg 0) := ldL b rfl
  have f1 : ∀ {K : Value → Prop}, sLd h (ptr k 1) K = K (.int .i64 m.w) := ldL b rfl
  simp only [ev_nil, ev_off, Nat.zero_add, Nat.add_zero, f20, f0, f1, ev_sub]
  rw [wrap_i64 (by omega) (by omega), ev_add, wrap_i64 (by omega) (by omega), ev_min]
  rw [show (if m.bot - top + 1 < n then m.bot - top + 1 else n) = mnI n (m.bot - top + 1) from rfl]
  have hmn : mnI n (m.bot - top + 1) ≤ m.bot - top + 1 := by unfold mnI; split <;> omega
  generalize mnI n (m.bot - top + 1) = q at H hmn ⊢
  rw [ev_lt, ev_if]
  by_cases hq : q < 1
  · rw [if_pos hq] at H
    rw [if_pos (decide_eq_true hq)]
    exact H h (Sshut e es so)
  rw [if_neg hq] at H
  rw [if_neg (by simpa using hq), ev_add, wrap_i64 (by omega) (by omega), ev_add, wrap_i64 (by omega) (by omega), ev_sub, wrap_i64 (by omega) (by omega)]
  refine build_intro (cs := (⟨0, top + q, m.w, m.bot - top + 1 - q⟩ : Rc).c) ⟨rfl, Nat.le_of_ble_eq_true rfl, rfl, Nat.le_of_ble_eq_true rfl, rfl, Nat.le_of_ble_eq_true rfl, rfl⟩ ?_
  refine gcopy_spec (r := ⟨0, top + q, m.w, m.bot - top + 1 - q⟩) so.b1 (by simp only; omega) (by simp only; omega) (by simp only; omega) (fun n1 h1 s1 => ?_)
  have b1 : h1.has k (scL m kg ov).toArray 64 := s1.b1.has
  have cc : ∀ {o : Nat} {u : Value} {K : Value → Prop}, (scL m kg ov)[o]? = some u → sLdC (fun h' => h'.has k (scL m kg ov).toArray 64) (ptr k o) K = K u := fun hv => ldc_at (C := fun h' => h'.has k (scL m kg ov).toArray 64) (h0 := h1) b1 (fun h' e => by rw [e.at, List.getElem?_toArray, hv])
  refine ⟨fun h' => h'.has k (scL m kg ov).toArray 64, b1, ?_⟩
  rw [cc (o := 0) (u := ptr kg 0) rfl, cc (o := 20) (u := .int .i64 m.bot) rfl, ev_add, wrap_i64 (by omega) (by omega), ev_sub, wrap_i64 (by omega) (by omega), cc (o := 1) (u := .int .i64 m.w) rfl]
  refine build_intro (cs := (⟨0, m.bot + 1 - q, m.w, q⟩ : Rc).c) ⟨rfl, Nat.le_of_ble_eq_true rfl, rfl, Nat.le_of_ble_eq_true rfl, rfl, Nat.le_of_ble_eq_true rfl, rfl⟩ ?_
  refine blank_b b1 (fun h2 e2 => ⟨e2.has b1, ?_⟩)
  refine gfill_spec (r := ⟨0, m.bot + 1 - q, m.w, q⟩) (s1.ext' e2) (fun n2 h3 s3 => H h3 (Sshut (kg := kg) (ov := ov) e es ?_))
  rw [up_eq sz.1 sz.2 (by omega) (by omega) ho] at s3
  exact s3.b1
end
end Go.Proofs.YtmhhjpfkipficaaDoor


end

section
/- What is said of blocks that nobody writes any more. -/
set_option linter.unusedSimpArgs false
set_option linter.unusedVariables false
namespace Go.Proofs.YtmhhjpfkipficaaDoor
open Go Go.HW

theorem idx_perm (L : List HP) (idx : List Nat) (h : idx.Perm (List.range L.length)) : L.Perm (idx.map fun i => L.getD i HP.emp) := by
  have e : (List.range L.length).map (fun i => L.getD i HP.emp) = L := by
    refine List.ext_getElem (by simp) (fun i h1 h2 => ?_)
    simp [List.getD_eq_getElem?_getD, List.getElem?_eq_getElem h2]
  have := (h.map fun i => L.getD i HP.emp).symm
  rwa [e] at this
/-- The first ones in another order. -/
theorem selF {h0 h : Heap} {F L : List HP} (s : HW.Sep h0 (L ++ F) h) (idx : List Nat) (hn : L.length = idx.length) (hp : idx.Perm (List.range idx.length)) : HW.Sep h0 ((idx.map fun i => L.getD i HP.emp) ++ F) h := s.perm ((idx_perm L idx (hn ▸ hp)).append_right F)

structure FQ where
  P : (Nat → Prop) → Heap → Prop
  loc : ∀ {s : Nat → Prop} {h h' : Heap}, P s h → (∀ b, s b → h'[b]? = h[b]?) → P s h'
  mono : ∀ {s t : Nat → Prop} {h : Heap}, P s h → (∀ b, s b → t b) → P t h
def Fr (A : FQ) : HP where
  P s h := (∀ b, s b → b < h.size) ∧ A.P s h
  loc := fun {s h h'} p e => ⟨fun b hb => by
      have e := e b hb
      rw [Array.getElem?_eq_getElem (p.1 b hb)] at e
      exact (Array.getElem?_eq_some_iff.1 e).1, A.loc p.2 e⟩
  dom := fun p => p.1
section
variable {α : Type}
theorem seq_keepG {enc : α → List Value} {sz : Nat} {h h' : Heap} {v : Value} {l : List α} (a : Seq enc sz h v l) (e : ∀ b o n m, v = .slice (some ⟨b, o, none⟩) n m → l ≠ [] → h'[b]? = h[b]?) : Seq enc sz h' v l := by
  obtain ⟨a, n, m, rfl, hn, hm, h0 | ⟨b, o, rfl, hb, hc⟩⟩ := a
  · exact ⟨_, _, _, rfl, hn, hm, .inl h0⟩
  · by_cases hl : l = []
    · subst hl; exact ⟨_, _, _, rfl, hn, hm, .inl hn.symm⟩
    · have e := e b o n m rfl hl
      have hs : b < h'.size := by
        rw [Array.getElem?_eq_getElem hb] at e
        exact (Array.getElem?_eq_some_iff.1 e).1
      refine ⟨_, _, _, rfl, hn, hm, .inr ⟨b, o, rfl, hs, fun j x hj i u hu => ?_⟩⟩
      have := hc j x hj i u hu
      unfold Heap.at at this ⊢
      rw [e]; exact this
def FQ.sq (enc : α → List Value) (sz : Nat) (v : Value) (l : List α) : FQ where
  P s h := Seq enc sz h v l ∧ (l ≠ [] → ∃ b o n m, v = .slice (some ⟨b, o, none⟩) n m ∧ s b)
  loc := fun p e => ⟨seq_keepG p.1 (fun b o n m hv hl => by
      obtain ⟨b', o', n', m', hv', hs⟩ := p.2 hl
      rw [hv] at hv'
      cases hv'
      exact e b hs), p.2⟩
  mono := fun p m => ⟨p.1, fun hl => let ⟨b, o, n, k, e, hs⟩ := p.2 hl; ⟨b, o, n, k, e, m b hs⟩⟩
end
def FQ.and (A B : FQ) : FQ := ⟨fun s h => A.P s h ∧ B.P s h, fun p e => ⟨A.loc p.1 e, B.loc p.2 e⟩, fun p m => ⟨A.mono p.1 m, B.mono p.2 m⟩⟩
def FQ.all {ι : Type} (l : List ι) (A : ι → FQ) : FQ := ⟨fun s h => ∀ x ∈ l, (A x).P s h, fun p e x hx => (A x).loc (p x hx) e, fun p m x hx => (A x).mono (p x hx) m⟩
def FQ.ex {ι : Type} (A : ι → FQ) : FQ := ⟨fun s h => ∃ x, (A x).P s h, fun ⟨x, p⟩ e => ⟨x, (A x).loc p e⟩, fun ⟨x, p⟩ m => ⟨x, (A x).mono p m⟩⟩
def FQ.fact (q : Prop) : FQ := ⟨fun _ _ => q, fun p _ => p, fun p _ => p⟩
section
variable {h0 h : Heap} {F : List HP} {A B : FQ} {α : Type} {enc : α → List Value} {sz : Nat} {v : Value} {l : List α}
theorem fr_get (s : HW.Sep h0 (Fr A :: F) h) : ∃ t, A.P t h := let ⟨t, p, _⟩ := s.head; ⟨t, p.2⟩
theorem fr_nil (s : HW.Sep h0 F h) : HW.Sep h0 (Fr (.fact True) :: F) h :=
  s.add1 (A := Fr (.fact True)) ⟨⟨fun _ => False, ⟨fun _ => False, fun _ => False, ⟨fun _ h => h.elim, trivial⟩, fun _ h => h, fun _ _ h => h, fun b => by simp⟩, fun _ h => h.elim⟩, Ext.refl h⟩
theorem fr_add (s : HW.Sep h0 (Fr A :: Sl enc sz v l :: F) h) : HW.Sep h0 (Fr (A.and (.sq enc sz v l)) :: F) h := by
  have s2 : HW.Sep h0 (HP.all [Fr A, Sl enc sz v l] :: F) h := Sep.shut_all (L := [_, _]) s
  refine s2.conv fun t ⟨s1, s2, a, ⟨s3, s4, ⟨k, o, hk⟩, e4, _, u2⟩, _, u⟩ => ⟨fun b hb => ?_, A.mono a.2 (fun b hb => (u b).2 (.inl hb)), o.seq, fun hl => ?_⟩
  · rcases (u b).1 hb with h1 | h1
    · exact a.1 b h1
    · rcases (u2 b).1 h1 with h2 | h2
      · exact o.lt ((hk b).1 h2).symm
      · exact (e4 b h2).elim
  · rcases o with ⟨_, _, e⟩ | ⟨b, p, n, m, c, t', e, rfl, _⟩
    · exact (hl e).elim
    · exact ⟨b, p, n, m, rfl, (u b).2 (.inr ((u2 b).2 (.inl ((hk b).2 e.symm))))⟩
end
end Go.Proofs.YtmhhjpfkipficaaDoor


end

section
/- The shallow reading of one function, and that the function does it. Written by a program. -/
set_option linter.unusedVariables false
namespace Go.Proofs.YtmhhjpfkipficaaDoor
open Go Go.HW _root_.Go.Proofs.Tryd

def screen_Screen_down_S (x0 x1 x2 : Value) (h : Heap) (R : Value → Heap → Prop) : Prop :=
  sNil x0 fun x8 =>
  sOff x8 20 fun x9 =>
  sLd h x9 fun x10 =>
  sSub .i64 x10 x1 fun x12 =>
  sAdd .i64 x12 (.int .i64 1) fun x13 =>
  sMin x2 x13 fun x14 =>
  sLt x14 (.int .i64 1) fun x16 =>
  sIf x16 (R unit h) (sNil x0 fun x18 =>
  sOff x18 0 fun x19 =>
  sLd h x19 fun x20 =>
  sNil x0 fun x23 =>
  sOff x23 1 fun x24 =>
  sLd h x24 fun x25 =>
  sNil x0 fun x27 =>
  sOff x27 20 fun x28 =>
  sLd h x28 fun x29 =>
  sSub .i64 x29 x1 fun x31 =>
  sAdd .i64 x31 (.int .i64 1) fun x32 =>
  sSub .i64 x32 x14 fun x34 =>
  sBuild #[.int .i64 0, .int .i64 0, .int .i64 0, .int .i64 0] [(1, 1, x1), (2, 1, x25), (3, 1, x34)] fun x35 =>
  sAdd .i64 x1 x14 fun x38 =>
  grid_Grid_Copy_c x20 x35 (.int .i64 0) x38 h fun x39 h => 
  ∃ C : Heap → Prop, C h ∧ (sNil x0 fun x41 =>
  sOff x41 0 fun x42 =>
  sLdC C x42 fun x43 =>
  sNil x0 fun x46 =>
  sOff x46 1 fun x47 =>
  sLdC C x47 fun x48 =>
  sBuild #[.int .i64 0, .int .i64 0, .int .i64 0, .int .i64 0] [(1, 1, x1), (2, 1, x48), (3, 1, x14)] fun x50 =>
  screen_Screen_blank_c x0 h fun x52 h_1 => C h_1 ∧ (
  grid_Grid_Fill_c x43 x50 x52 h_1 fun x53 h_2 => 
  R unit h_2)))
set_option maxRecDepth 100000 in
theorem screen_Screen_down_runs {x0 x1 x2 : Value} {h : Heap} {R : Value → Heap → Prop} (H : screen_Screen_down_S x0 x1 x2 h R) : screen_Screen_down_c x0 x1 x2 h R := by
 unfold screen_Screen_down_S at H
 refine runsof (b := ⟨#[x0,x1,x2,ud,ud,ud,ud,ud,ud,ud,ud,ud,ud,ud,ud,ud,ud,ud,ud,ud,ud,ud,ud,ud,ud,ud,ud,ud,ud,ud,ud,ud,ud,ud,ud,ud,ud,ud,ud,ud,ud,ud,ud,ud,ud,ud,ud,ud,ud,ud,ud,ud,ud,ud], []⟩) call75 func75 rfl fun w0 HA => wp_seq (lwp_list ?_)
 refine lsmove x2 <| lsmove x0 <| lsp 8 (pnil H) fun x8 H => lsp 9 (poff underlying64 rfl sizeOf3 rfl H) fun x9 H => lsy 10 HA (yld isAgg3 H) fun x10 H => lsmove x1 <| lsp 12 (psub H) fun x12 H => lsp 13 (padd H) fun x13 H => lsp 14 (pmin H) fun x14 H => lsassign x14 <| ls_nil (then_normal ?_)
 refine freq ⟨#[x0,x1,x14,ud,ud,ud,x2,x0,x8,x9,x10,x1,x12,x13,x14,ud,ud,ud,ud,ud,ud,ud,ud,ud,ud,ud,ud,ud,ud,ud,ud,ud,ud,ud,ud,ud,ud,ud,ud,ud,ud,ud,ud,ud,ud,ud,ud,ud,ud,ud,ud,ud,ud,ud], []⟩ <| wp_seq <| wp_seq (lwp_list ?_)
 refine lsmove x14 <| lsp 16 (psLt H) fun x16 H => ls_nil (then_normal ?_)
 refine freq ⟨#[x0,x1,x14,ud,ud,ud,x2,x0,x8,x9,x10,x1,x12,x13,x14,x14,x16,ud,ud,ud,ud,ud,ud,ud,ud,ud,ud,ud,ud,ud,ud,ud,ud,ud,ud,ud,ud,ud,ud,ud,ud,ud,ud,ud,ud,ud,ud,ud,ud,ud,ud,ud,ud,ud], []⟩ <| wp_if rfl H (fun H => ?_) (fun H => ?_)
 ·refine wp_ret <| then_ret <| end0 (results75) (by kernel_rfl) HA H _ (.inr rfl)
 ·refine wp_skip <| then_normal <| freq ⟨#[x0,x1,x14,ud,ud,ud,x2,x0,x8,x9,x10,x1,x12,x13,x14,x14,x16,ud,ud,ud,ud,ud,ud,ud,ud,ud,ud,ud,ud,ud,ud,ud,ud,ud,ud,ud,ud,ud,ud,ud,ud,ud,ud,ud,ud,ud,ud,ud,ud,ud,ud,ud,ud,ud], []⟩ <| wp_seq <| lwpmx (Nat.testBit 4194304) (Nat.testBit 0) (Nat.testBit 4189943) [0,1,3,7,0,0,32,96,224,0,512,1536,3584,0,15872,32256,0,130560,262128,0,0,1572864,4194303] (Nat.testBit 0) (fun h' => h' = h) [0,1,2,3,4,5,6,7,8,9,10,11,12,13,14,15,16,17,18,19,20,21,22] HA rfl fun w HA => lmal x0 17 rfl (almove) <| lmp 18 rfl (pnil H) fun x18 H => lmp 19 rfl (poff underlying64 rfl sizeOf54 rfl H) fun x19 H => lmf 20 rfl (of_eq (yld isAgg54 H)) fun x20 H => lmal x1 21 rfl (almove) <| lmal x0 22 rfl (almove) <| lmp 23 rfl (pnil H) fun x23 H => lmp 24 rfl (poff underlying64 rfl sizeOf3 rfl H) (fun x24 H => ?_)
  refine lmf 25 rfl (of_eq (yld isAgg3 H)) fun x25 H => lmal x0 26 rfl (almove) <| lmp 27 rfl (pnil H) fun x27 H => lmp 28 rfl (poff underlying64 rfl sizeOf3 rfl H) fun x28 H => lmf 29 rfl (of_eq (yld isAgg3 H)) fun x29 H => lmal x1 30 rfl (almove) <| lmp 31 rfl (psub H) fun x31 H => lmp 32 rfl (padd H) fun x32 H => lmal x14 33 rfl (almove) <| lmp 34 rfl (psub H) fun x34 H => lmp 35 rfl (plit (pl := [(0,1),(1,1),(2,1),(3,1)]) zeroValue83 underlying83 ⟨(by kernel_rfl),sizeOf3,(by kernel_rfl),sizeOf3,(by kernel_rfl),sizeOf3,(by kernel_rfl),sizeOf3,trivial⟩ H) fun x35 H => lmal x1 36 rfl (almove) <| lmal x14 37 rfl (almove) <| lmp 38 rfl (padd H) (fun x38 H => ?_)
  refine lmd 39 rfl HA (dcall H) fun x39 h w_1 H HA_1 => lm_nil <| then_normal <| freq ⟨#[x0,x1,x14,ud,ud,ud,x2,x0,x8,x9,x10,x1,x12,x13,x14,x14,x16,x0,x18,x19,x20,x1,x0,x23,x24,x25,x0,x27,x28,x29,x1,x31,x32,x14,x34,x35,x1,x14,x38,x39,ud,ud,ud,ud,ud,ud,ud,ud,ud,ud,ud,ud,ud,ud], []⟩ ?_
  obtain ⟨C,HC,H⟩ := H
  refine lwpmx (Nat.testBit 12288) (Nat.testBit 4096) (Nat.testBit 3831) [0,1,3,7,0,0,32,96,224,0,1008,0,2048,8191] (Nat.testBit 0) C [0,1,2,3,4,5,6,7,8,9,10,11,12,13] HA_1 HC fun w_2 HA_2 => lmal x0 40 rfl (almove) <| lmp 41 rfl (pnil H) fun x41 H => lmp 42 rfl (poff underlying64 rfl sizeOf54 rfl H) fun x42 H => lmf 43 rfl (cld isAgg54 H) fun x43 H => lmal x1 44 rfl (almove) <| lmal x0 45 rfl (almove) <| lmp 46 rfl (pnil H) fun x46 H => lmp 47 rfl (poff underlying64 rfl sizeOf3 rfl H) fun x47 H => lmf 48 rfl (cld isAgg3 H) fun x48 H => lmal x14 49 rfl (almove) <| lmp 50 rfl (plit (pl := [(0,1),(1,1),(2,1),(3,1)]) zeroValue83 underlying83 ⟨(by kernel_rfl),sizeOf3,(by kernel_rfl),sizeOf3,(by kernel_rfl),sizeOf3,(by kernel_rfl),sizeOf3,trivial⟩ H) fun x50 H => lmal x0 51 rfl (almove) ?_
  refine lmdc 52 rfl HA_2 (dcall H) fun x52 h_1 w_3 H HA_3 => lmd 53 rfl HA_3 (dcall H) fun x53 h_2 w_4 H HA_4 => lm_nil <| end0 (results75) (by kernel_rfl) HA_4 H _ (.inl rfl)

end Go.Proofs.YtmhhjpfkipficaaDoor


end

section
/- The shallow reading of one function, and that the function does it. Written by a program. -/
set_option linter.unusedVariables false
namespace Go.Proofs.YtmhhjpfkipficaaDoor
open Go Go.HW _root_.Go.Proofs.Tryd

def screen_Screen_Scroll_S (x0 x1 : Value) (h : Heap) (R : Value → Heap → Prop) : Prop :=
  screen_Screen_cur_c x0 h fun x5 h => 
  sNil x5 fun x6 =>
  sOff x6 2 fun x7 =>
  sSt h x7 (.bool false) fun h_1 => 
  sGt x1 (.int .i64 0) fun x9 =>
  sIf x9 (screen_Screen_scrollUp_c x0 x1 h_1 fun x12 h_2 => 
  R unit h_2) (sNil x0 fun x15 =>
  sOff x15 19 fun x16 =>
  sLd h_1 x16 fun x17 =>
  sNil x0 fun x20 =>
  sOff x20 2 fun x21 =>
  sLd h_1 x21 fun x22 =>
  sNeg .i64 x22 fun x23 =>
  sMax x1 x23 fun x24 =>
  sNeg .i64 x24 fun x25 =>
  screen_Screen_down_c x0 x17 x25 h_1 fun x26 h_3 => 
  R unit h_3)
set_option maxRecDepth 100000 in
theorem screen_Screen_Scroll_runs {x0 x1 : Value} {h : Heap} {R : Value → Heap → Prop} (H : screen_Screen_Scroll_S x0 x1 h R) : screen_Screen_Scroll_c x0 x1 h R := by
 unfold screen_Screen_Scroll_S at H
 refine runsof (b := (mk (Ap [x0,x1] 25))) call26 func26 rfl fun w0 HA => wp_seq (lwp_list ?_)
 refine lsmove x0 <| lsd 5 HA (dcall H) fun x5 h w H HA => lsp 6 (pnil H) fun x6 H => lsp 7 (poff underlying38 rfl sizeOf4 rfl H) fun x7 H => lsdn HA (dstw sizeOf4 H) fun _ h_1 w_1 H HA_1 => ls_nil (then_normal ?_)
 refine freq (mk (Ap [x0,x1,ud,ud,x0,x5,x6,x7] 19)) <| wp_seq (lwp_list ?_)
 refine lsmove x1 <| lsp 9 (psGt H) fun x9 H => ls_nil (then_normal ?_)
 refine freq (mk (Ap [x0,x1,ud,ud,x0,x5,x6,x7,x1,x9] 17)) <| wp_if rfl H (fun H => ?_) (fun H => ?_)
 ·refine lwp_list <| lsmove x0 <| lsmove x1 <| lsd 12 HA_1 (dcall H) fun x12 h_2 w_2 H HA_2 => ls_nil <| end0 (results26) (by kernel_rfl) HA_2 H _ (.inl rfl)
 ·refine lwpmx (Nat.testBit 8192) (Nat.testBit 0) (Nat.testBit 7663) [0,0,2,6,14,0,0,64,192,448,960,2016,4064,8191] (Nat.testBit 0) (fun h' => h' = h_1) [0,1,2,3,4,5,6,7,8,9,10,11,12,13] HA_1 rfl fun w_3 HA_3 => lmal x0 13 rfl (almove) <| lmal x0 14 rfl (almove) <| lmp 15 rfl (pnil H) fun x15 H => lmp 16 rfl (poff underlying64 rfl sizeOf3 rfl H) fun x16 H => lmf 17 rfl (of_eq (yld isAgg3 H)) fun x17 H => lmal x1 18 rfl (almove) <| lmal x0 19 rfl (almove) <| lmp 20 rfl (pnil H) fun x20 H => lmp 21 rfl (poff underlying64 rfl sizeOf3 rfl H) fun x21 H => lmf 22 rfl (of_eq (yld isAgg3 H)) fun x22 H => lmp 23 rfl (pneg H) fun x23 H => lmp 24 rfl (pmax H) (fun x24 H => ?_)
  refine lmp 25 rfl (pneg H) fun x25 H => lmd 26 rfl HA_3 (dcall H) fun x26 h_3 w_4 H HA_4 => lm_nil <| end0 (results26) (by kernel_rfl) HA_4 H _ (.inl rfl)

end Go.Proofs.YtmhhjpfkipficaaDoor


end

section
/- The shallow reading of one function, and that the function does it. Written by a program. -/
set_option linter.unusedVariables false
namespace Go.Proofs.YtmhhjpfkipficaaDoor
open Go Go.HW _root_.Go.Proofs.Tryd

def screen_Screen_Back_S (x0 : Value) (h : Heap) (R : Value → Heap → Prop) : Prop :=
  screen_Screen_cur_c x0 h fun x4 h => 
  sNil x4 fun x6 =>
  sOff x6 2 fun x7 =>
  sSt h x7 (.bool false) fun h_1 => 
  sNil x4 fun x9 =>
  sOff x9 1 fun x10 =>
  sLd h_1 x10 fun x11 =>
  sNil x0 fun x13 =>
  sOff x13 19 fun x14 =>
  sLd h_1 x14 fun x15 =>
  sEq x11 x15 fun x16 =>
  sIf x16 (sNil x0 fun x19 =>
  sOff x19 19 fun x20 =>
  sLd h_1 x20 fun x21 =>
  screen_Screen_down_c x0 x21 (.int .i64 1) h_1 fun x22 h_2 => 
  R unit h_2) (sNil x4 fun x24 =>
  sOff x24 1 fun x25 =>
  sLd h_1 x25 fun x26 =>
  sGt x26 (.int .i64 0) fun x27 =>
  sIf x27 (sNil x4 fun x29 =>
  sOff x29 1 fun x30 =>
  sLd h_1 x30 fun x31 =>
  sSub .i64 x31 (.int .i64 1) fun x32 =>
  sNil x4 fun x33 =>
  sOff x33 1 fun x34 =>
  sSt h_1 x34 x32 fun h_3 => 
  R unit h_3) (R unit h_1))
set_option maxRecDepth 100000 in
theorem screen_Screen_Back_runs {x0 : Value} {h : Heap} {R : Value → Heap → Prop} (H : screen_Screen_Back_S x0 h R) : screen_Screen_Back_c x0 h R := by
 unfold screen_Screen_Back_S at H
 refine runsof (b := (mk (Ap [x0] 34))) call40 func40 rfl fun w0 HA => wp_seq (lwp_list ?_)
 refine lsmove x0 <| lsd 4 HA (dcall H) fun x4 h w H HA => lsassign x4 <| ls_nil (then_normal ?_)
 refine freq (mk (Ap [x0,ud,x4,x0,x4] 30)) <| wp_seq (lwp_list ?_)
 refine lsmove x4 <| lsp 6 (pnil H) fun x6 H => lsp 7 (poff underlying38 rfl sizeOf4 rfl H) fun x7 H => lsdn HA (dstw sizeOf4 H) fun _ h_1 w_1 H HA_1 => ls_nil (then_normal ?_)
 refine freq (mk (Ap [x0,ud,x4,x0,x4,x4,x6,x7] 27)) <| wp_seq <| lwpqt HA_1 <| lqmove x4 <| lqp 9 (pnil H) fun x9 H => lqp 10 (poff underlying38 rfl sizeOf3 rfl H) fun x10 H => lqy 11 HA_1 (yld isAgg3 H) fun x11 H => lqmove x0 <| lqp 13 (pnil H) fun x13 H => lqp 14 (poff underlying64 rfl sizeOf3 rfl H) fun x14 H => lqy 15 HA_1 (yld isAgg3 H) fun x15 H => lqp 16 (psEq H) fun x16 H => lq_nil fun w_2 HA_2 => ?_
 refine then_normal <| freq (mk (Ap [x0,ud,x4,x0,x4,x4,x6,x7,x4,x9,x10,x11,x0,x13,x14,x15,x16] 18)) <| wp_if rfl H (fun H => ?_) (fun H => ?_)
 ·refine lwp_list <| lsmove x0 <| lsmove x0 <| lsp 19 (pnil H) fun x19 H => lsp 20 (poff underlying64 rfl sizeOf3 rfl H) fun x20 H => lsy 21 HA_2 (yld isAgg3 H) fun x21 H => lsd 22 HA_2 (dcall H) fun x22 h_2 w_3 H HA_3 => ls_nil <| end0 (results40) (by kernel_rfl) HA_3 H _ (.inl rfl)
 ·refine wp_seq (lwp_list ?_)
  refine lsmove x4 <| lsp 24 (pnil H) fun x24 H => lsp 25 (poff underlying38 rfl sizeOf3 rfl H) fun x25 H => lsy 26 HA_2 (yld isAgg3 H) fun x26 H => lsp 27 (psGt H) fun x27 H => ls_nil (then_normal ?_)
  refine freq (mk (Aq [x0,ud,x4,x0,x4,x4,x6,x7,x4,x9,x10,x11,x0,x13,x14,x15,x16] 6 (Ap [x4,x24,x25,x26,x27] 7))) <| wp_if rfl H (fun H => ?_) (fun H => ?_)
  ·refine lwp_list <| lsmove x4 <| lsp 29 (pnil H) fun x29 H => lsp 30 (poff underlying38 rfl sizeOf3 rfl H) fun x30 H => lsy 31 HA_2 (yld isAgg3 H) fun x31 H => lsp 32 (psub H) fun x32 H => lsp 33 (pnil H) fun x33 H => lsp 34 (poff underlying38 rfl sizeOf3 rfl H) fun x34 H => lsdn HA_2 (dstw sizeOf3 H) fun _ h_3 w_4 H HA_4 => ls_nil <| end0 (results40) (by kernel_rfl) HA_4 H _ (.inl rfl)
  ·refine wp_skip <| end0 (results40) (by kernel_rfl) HA_2 H _ (.inl rfl)

end Go.Proofs.YtmhhjpfkipficaaDoor


end

section
/- The shallow reading of one function, and that the function does it. Written by a program. -/
set_option linter.unusedVariables false
namespace Go.Proofs.YtmhhjpfkipficaaDoor
open Go Go.HW _root_.Go.Proofs.Tryd

def screen_Screen_SetPen_S (x0 x1 : Value) (h : Heap) (R : Value → Heap → Prop) : Prop :=
  sBox h x1 29 fun x3 h => 
  sLdN h x3 3 fun x5 =>
  sNil x0 fun x6 =>
  sOff x6 3 fun x7 =>
  sOff x7 3 fun x8 =>
  sStN h x8 x5 3 fun h_1 => 
  R unit h_1
set_option maxRecDepth 100000 in
theorem screen_Screen_SetPen_runs {x0 x1 : Value} {h : Heap} {R : Value → Heap → Prop} (H : screen_Screen_SetPen_S x0 x1 h R) : screen_Screen_SetPen_c x0 x1 h R := by
 unfold screen_Screen_SetPen_S at H
 refine runsof (b := (mk (Ap [x0,x1] 7))) call22 func22 rfl fun w0 HA => wp_seq (lwp_list ?_)
 refine lsd 3 HA (dbox H) fun x3 h w H HA => ls_nil (then_normal ?_)
 refine freq (mk (Ap [x0,x1,ud,x3] 5)) <| lwp_list <| lsmove x0 <| lsy 5 HA (yldn isAgg29 sizeOf29 H) fun x5 H => lsp 6 (pnil H) fun x6 H => lsp 7 (poff underlying64 rfl sizeOf61 rfl H) fun x7 H => lsp 8 (poff underlying61 rfl sizeOf29 rfl H) fun x8 H => lsdn HA (dstn sizeOf29 H) fun _ h_1 w_1 H HA_1 => ls_nil <| end0 (results22) (by kernel_rfl) HA_1 H _ (.inl rfl)

end Go.Proofs.YtmhhjpfkipficaaDoor


end

section
/- The shallow reading of one function, and that the function does it. Written by a program. -/
set_option linter.unusedVariables false
namespace Go.Proofs.YtmhhjpfkipficaaDoor
open Go Go.HW _root_.Go.Proofs.Tryd

end Go.Proofs.YtmhhjpfkipficaaDoor


end

section
/- The shallow reading of one function, and that the function does it. Written by a program. -/
set_option linter.unusedVariables false
namespace Go.Proofs.YtmhhjpfkipficaaDoor
open Go Go.HW _root_.Go.Proofs.Tryd

def screen_Screen_Size_S (x0 : Value) (h : Heap) (R : Value → Heap → Prop) : Prop :=
  sNil x0 fun x5 =>
  sOff x5 1 fun x6 =>
  sLd h x6 fun x7 =>
  sNil x0 fun x9 =>
  sOff x9 2 fun x10 =>
  sLd h x10 fun x11 =>
  R (.tuple #[x7, x11]) h
set_option maxRecDepth 100000 in
theorem screen_Screen_Size_runs {x0 : Value} {h : Heap} {R : Value → Heap → Prop} (H : screen_Screen_Size_S x0 h R) : screen_Screen_Size_c x0 h R := by
 unfold screen_Screen_Size_S at H
 refine runsof (b := (mk (Ap [x0] 11))) call19 func19 rfl fun w0 HA => wp_seq (lwp_list ?_)
 refine lsassign (.int .i64 0) <| lsassign (.int .i64 0) <| ls_nil (then_normal ?_)
 refine freq (mk (Ap [x0,ud,(.int .i64 0),(.int .i64 0)] 8)) <| wp_seq <| lwpqt HA <| lqmove x0 <| lqp 5 (pnil H) fun x5 H => lqp 6 (poff underlying64 rfl sizeOf3 rfl H) fun x6 H => lqy 7 HA (yld isAgg3 H) fun x7 H => lqmove x0 <| lqp 9 (pnil H) fun x9 H => lqp 10 (poff underlying64 rfl sizeOf3 rfl H) fun x10 H => lqy 11 HA (yld isAgg3 H) fun x11 H => lqassign x7 <| lqassign x11 <| lq_nil ?_
 intro w HA
 refine then_normal <| freq (mk [x0,ud,x7,x11,x0,x5,x6,x7,x0,x9,x10,x11]) <| wp_ret <| end2 (results19) (by kernel_rfl) (by kernel_rfl) (by kernel_rfl) HA H _ (.inr rfl)

end Go.Proofs.YtmhhjpfkipficaaDoor


end

section
/- The shallow reading of one function, and that the function does it. Written by a program. -/
set_option linter.unusedVariables false
namespace Go.Proofs.YtmhhjpfkipficaaDoor
open Go Go.HW _root_.Go.Proofs.Tryd

end Go.Proofs.YtmhhjpfkipficaaDoor


end

section
/- Screens: scrolling, lines, moves, what is told. -/
set_option linter.unusedSimpArgs false
set_option linter.unusedVariables false
namespace Go.Proofs.YtmhhjpfkipficaaDoor
open Go Go.HW

/-- What is right of a screen. -/
structure OkS (m : Sc) : Prop where
  w : 1 ≤ m.w ∧ m.w ≤ 512
  g : 1 ≤ m.g ∧ m.g ≤ 512
  x : 0 ≤ m.x ∧ m.x < m.w
  y : 0 ≤ m.y ∧ m.y < m.g
  t : 0 ≤ m.top ∧ m.top ≤ m.bot ∧ m.bot < m.g
  late : m.late = true → m.x = m.w - 1
structure Rds (k : Nat) (m : Sc) (h : Heap) : Prop where
  r1 : ∀ {K : Value → Prop}, sLd h (ptr k 1) K = K (.int .i64 m.w)
  r2 : ∀ {K : Value → Prop}, sLd h (ptr k 2) K = K (.int .i64 m.g)
  r3 : ∀ {K : Value → Prop}, sLd h (ptr k 3) K = K (.int .i64 m.x)
  r4 : ∀ {K : Value → Prop}, sLd h (ptr k 4) K = K (.int .i64 m.y)
  r5 : ∀ {K : Value → Prop}, sLd h (ptr k 5) K = K (.bool m.late)
  r9 : ∀ {K : Value → Prop}, sLd h (ptr k 9) K = K (.bool m.org)
  r17 : ∀ {K : Value → Prop}, sLd h (ptr k 17) K = K (.bool m.wrap)
  r18 : ∀ {K : Value → Prop}, sLd h (ptr k 18) K = K (.bool m.ins)
  r19 : ∀ {K : Value → Prop}, sLd h (ptr k 19) K = K (.int .i64 m.top)
  r20 : ∀ {K : Value → Prop}, sLd h (ptr k 20) K = K (.int .i64 m.bot)
def Hk (k : Nat) (m : Sc) (kg : Nat) (ov : Value) : Heap → Prop := fun h' => h'.has k (scL m kg ov).toArray 64
structure Rdc (k : Nat) (m : Sc) (kg : Nat) (ov : Value) : Prop where
  r0 : ∀ {K : Value → Prop}, sLdC (Hk k m kg ov) (ptr k 0) K = K (ptr kg 0)
  r1 : ∀ {K : Value → Prop}, sLdC (Hk k m kg ov) (ptr k 1) K = K (.int .i64 m.w)
  r2 : ∀ {K : Value → Prop}, sLdC (Hk k m kg ov) (ptr k 2) K = K (.int .i64 m.g)
  r3 : ∀ {K : Value → Prop}, sLdC (Hk k m kg ov) (ptr k 3) K = K (.int .i64 m.x)
  r4 : ∀ {K : Value → Prop}, sLdC (Hk k m kg ov) (ptr k 4) K = K (.int .i64 m.y)
  r20 : ∀ {K : Value → Prop}, sLdC (Hk k m kg ov) (ptr k 20) K = K (.int .i64 m.bot)
def downF (C : Cel) (w g top bot n : Int) (bl : Ce) : Cel := fun x y => if inG w g x y = true ∧ top ≤ y ∧ y ≤ bot then (if top + n ≤ y then C x (y - n) else bl) else C x y
/-- So many rows go up, those of the screen's top go off. -/
def upN (m : Sc) (n : Int) : Int := mnI n (m.bot - m.top + 1)
def upC (m : Sc) (C : Cel) (n : Int) : Cel := if upN m n < 1 then C else upF C m.w m.g m.top m.bot (upN m n) m.bl
def upO (m : Sc) (C : Cel) (off : List (List Ce)) (n : Int) : List (List Ce) := if m.top = 0 then off ++ (List.range (upN m n).toNat).map (fun (y : Nat) => rowL C m.w y) else off
def downC (m : Sc) (C : Cel) (top n : Int) : Cel := if mnI n (m.bot - top + 1) < 1 then C else downF C m.w m.g top m.bot (mnI n (m.bot - top + 1)) m.bl

section
variable {h0 h : Heap} {F : List HP} {R : Value → Heap → Prop} {k kg : Nat} {m : Sc} {C : Cel} {off : List (List Ce)}
theorem rd (z : HW.Sep h0 (Scr k m C off :: F) h) : Rds k m h :=
  ⟨mld z (fun _ _ => rfl), mld z (fun _ _ => rfl), mld z (fun _ _ => rfl), mld z (fun _ _ => rfl), mld z (fun _ _ => rfl), mld z (fun _ _ => rfl), mld z (fun _ _ => rfl), mld z (fun _ _ => rfl), mld z (fun _ _ => rfl), mld z (fun _ _ => rfl)⟩
theorem rdc_at {o : Nat} {u : Value} {ov : Value} (b : Hk k m kg ov h) {K : Value → Prop} (hv : (scL m kg ov)[o]? = some u) : sLdC (Hk k m kg ov) (ptr k o) K = K u :=
  ldc_at (C := Hk k m kg ov) (h0 := h) b (fun h' e => by unfold Hk at e; rw [e.at, List.getElem?_toArray, hv])
theorem rdc {ov : Value} (b : Hk k m kg ov h) : Rdc k m kg ov :=
  ⟨rdc_at b rfl, rdc_at b rfl, rdc_at b rfl, rdc_at b rfl, rdc_at b rfl, rdc_at b rfl⟩
theorem down_eq {w g top bot n : Int} {bl : Ce} (hw : 1 ≤ w ∧ w ≤ 512) (hg : 1 ≤ g ∧ g ≤ 512) (ht : 0 ≤ top ∧ bot < g) (hn : 1 ≤ n ∧ n ≤ bot - top + 1) (ho : ∀ x y, ¬ inG w g x y = true → C x y = ce0) : fillF (copyF C w g ⟨0, top, w, bot - top + 1 - n⟩ 0 (top + n)) w g ⟨0, top, w, n⟩ bl = downF C w g top bot n bl := by
  funext x y
  have hr : (⟨0, top, w, n⟩ : Rc).right = true := (Rc.right_iff _).2 (by unfold Rc.Ok; simp only; omega)
  unfold fillF copyF downF Rc.has
  rw [hr]
  simp only [true_and, Int.zero_add, Int.add_zero, Int.sub_zero]
  by_cases hi : inG w g x y = true
  · have h2 := inG_iff.1 hi
    by_cases hy : top ≤ y ∧ y ≤ bot
    · by_cases hb : top + n ≤ y
      · rw [if_neg (by omega), if_pos (by omega), if_pos ⟨hi, hy⟩, if_pos hb]
        congr 1; omega
      · rw [if_pos ⟨by omega, hi⟩, if_pos ⟨hi, hy⟩, if_neg hb]
    · rw [if_neg (by omega), if_neg (by omega), if_neg (fun h => hy h.2)]
  · rw [if_neg (fun h => hi h.2)]
    rw [if_neg (show ¬(inG w g x y = true ∧ top ≤ y ∧ y ≤ bot) from fun h => hi h.1)]
    split
    · rename_i hh
      exact (hi (inG_iff.2 ⟨by omega, by omega⟩)).elim
    · rfl
theorem down_spec {top n : Int} (z : HW.Sep h0 (Scr k m C off :: F) h) (ht : 0 ≤ top ∧ top ≤ m.bot ∧ m.bot < m.g) (H : ∀ h', HW.Sep h0 (Scr k m (downC m C top n) off :: F) h' → R unit h') : screen_Screen_down_c (ptr k 0) (.int .i64 top) (.int .i64 n) h R := by
  apply screen_Screen_down_runs
  unfold screen_Screen_down_S
  unfold downC at H
  have sz := Ssz z
  have ho := fun x y => Sout z (x := x) (y := y)
  obtain ⟨kg, ov, rs, e, es, so⟩ := Sopen z
  have b := so.has
  have f20 : ∀ {K : Value → Prop}, sLd h (ptr k 20) K = K (.int .i64 m.bot) := ldL b rfl
  have f0 : ∀ {K : Value → Prop}, sLd h (ptr k 0) K = K (ptr kg 0) := ldL b rfl
  have f1 : ∀ {K : Value → Prop}, sLd h (ptr k 1) K = K (.int .i64 m.w) := ldL b rfl
  simp only [ev_nil, ev_off, Nat.zero_add, Nat.add_zero, f20, f0, f1, ev_sub]
  rw [wrap_i64 (by omega) (by omega), ev_add, wrap_i64 (by omega) (by omega), ev_min]
  rw [show (if m.bot - top + 1 < n then m.bot - top + 1 else n) = mnI n (m.bot - top + 1) from rfl]
  have hmn : mnI n (m.bot - top + 1) ≤ m.bot - top + 1 := by unfold mnI; split <;> omega
  generalize mnI n (m.bot - top + 1) = q at H hmn ⊢
  rw [ev_lt, ev_if]
  by_cases hq : q < 1
  · rw [if_pos hq] at H
    rw [if_pos (decide_eq_true hq)]
    exact H h (Sshut e es so)
  rw [if_neg hq] at H
  rw [if_neg (by simpa using hq)]
  simp (disch := omega) only [ev_add, ev_sub, wrap_i64]
  refine build_intro (cs := (⟨0, top, m.w, m.bot - top + 1 - q⟩ : Rc).c) ⟨rfl, Nat.le_of_ble_eq_true rfl, rfl, Nat.le_of_ble_eq_true rfl, rfl, Nat.le_of_ble_eq_true rfl, rfl⟩ ?_
  refine gcopy_spec (r := ⟨0, top, m.w, m.bot - top + 1 - q⟩) so.b1 (by simp only; omega) (by simp only; omega) (by simp only; omega) (fun n1 h1 s1 => ?_)
  have b1 : h1.has k (scL m kg ov).toArray 64 := s1.b1.has
  refine ⟨Hk k m kg ov, b1, ?_⟩
  rw [(rdc b1).r0, (rdc b1).r1]
  refine build_intro (cs := (⟨0, top, m.w, q⟩ : Rc).c) ⟨rfl, Nat.le_of_ble_eq_true rfl, rfl, Nat.le_of_ble_eq_true rfl, rfl, Nat.le_of_ble_eq_true rfl, rfl⟩ ?_
  refine blank_b b1 (fun h2 e2 => ⟨e2.has b1, ?_⟩)
  refine gfill_spec (r := ⟨0, top, m.w, q⟩) (s1.ext' e2) (fun n2 h3 s3 => H h3 (Sshut (kg := kg) (ov := ov) e es ?_))
  rw [down_eq sz.1 sz.2 (by omega) (by omega) ho] at s3
  exact s3.b1
theorem scrollUp_spec {n : Int} (z : HW.Sep h0 (Scr k m C off :: F) h) (ht : 0 ≤ m.top ∧ m.top ≤ m.bot ∧ m.bot < m.g) (hb : off.length ≤ 1000000) (H : ∀ h', HW.Sep h0 (Scr k m (upC m C n) (upO m C off n) :: F) h' → R unit h') : screen_Screen_scrollUp_c (ptr k 0) (.int .i64 n) h R := by
  apply screen_Screen_scrollUp_runs
  unfold screen_Screen_scrollUp_S
  have sz := Ssz z
  have r := rd z
  unfold upC upO at H
  simp only [ev_nil, ev_off, Nat.zero_add, Nat.add_zero, r.r20, r.r19, ev_sub]
  rw [wrap_i64 (by omega) (by omega), ev_add, wrap_i64 (by omega) (by omega), ev_min]
  rw [show (if m.bot - m.top + 1 < n then m.bot - m.top + 1 else n) = upN m n from rfl]
  have hmn : upN m n ≤ m.bot - m.top + 1 := by unfold upN mnI; split <;> omega
  have h2 : mnI (upN m n) (m.bot - m.top + 1) = upN m n := by unfold mnI; rw [if_neg (by omega)]
  have hup : ∀ {off' : List (List Ce)} {h1 : Heap}, off' = (if m.top = 0 then off ++ (List.range (upN m n).toNat).map (fun (y : Nat) => rowL C m.w y) else off) → HW.Sep h0 (Scr k m C off' :: F) h1 → screen_Screen_scrollUp_j1 R (ptr k 0) (.int .i64 (upN m n)) h1 := by
    intro off' h1 eo s1
    unfold screen_Screen_scrollUp_j1
    simp only [ev_nil, ev_off, Nat.zero_add, Nat.add_zero, (rd s1).r19]
    refine up_spec s1 ht (fun h' s' => H h' ?_)
    rw [h2] at s'
    rw [← eo]; exact s'
  generalize upN m n = q at H hmn hup ⊢
  rw [ev_eq, ev_if]
  by_cases h3 : m.top = 0
  · rw [if_pos (by simpa using h3)]
    refine ⟨fun t h' => ∃ i : Nat, ((i : Int) ≤ q ∨ i = 0) ∧ t = .int .i64 i ∧ HW.Sep h0 (Scr k m C (off ++ (List.range i).map (fun (y : Nat) => rowL C m.w y)) :: F) h', fun t _ => match t with | .int _ i => (q - i).toNat | _ => 0, ⟨0, .inr rfl, rfl, by simpa using z⟩, ?_⟩
    rintro _ h1 ⟨i, hi, rfl, s1⟩
    simp only []
    unfold screen_Screen_scrollUp_l2
    rw [ev_lt, ev_if]
    by_cases hlt : (i : Int) < q
    · rw [if_pos (decide_eq_true hlt)]
      obtain ⟨kg, ov, rs, e, es, so⟩ := Sopen s1
      have hrl : rs.length = off.length + i := by have := congrArg List.length e; simpa using this
      refine ⟨Hk k m kg ov, so.has, ?_⟩
      have f0 : ∀ {K : Value → Prop}, sLd h1 (ptr k 0) K = K (ptr kg 0) := ldL so.has rfl
      have f533 : ∀ {K : Value → Prop}, sLdC (Hk k m kg ov) (ptr k 533) K = K ov := rdc_at so.has (by
        have hs : (scL m kg ov).length = 534 := by rw [sc_len, es]
        unfold scL
        rw [List.getElem?_append_right (by simp [scH]), List.getElem?_append_right (by simp [scH, es])]
        simp [scH, es])
      simp only [ev_nil, ev_off, Nat.zero_add, Nat.add_zero, f0, f533]
      refine grow_spec so.b1 (by omega) (fun v' h2 s2 => ⟨s2.b2.has, ?_⟩)
      have cv : Cell1 v' := s2.cell
      obtain ⟨va, vn, vm, rfl, _⟩ := s2.seq
      refine s2.slit (enc := encCV) (sz := 1) encCV_len [⟨.slice va vn vm, cv⟩] rfl ⟨rfl, Nat.le_of_ble_eq_true rfl, rfl⟩ (fun lv h3 _ s3 => ⟨s3.b3.has, ?_⟩)
      refine s3.b4.app (enc := encCV) (sz := 1) rfl (by decide) encCV_len encCV_cell s3.seq (by simp only [List.length_map, List.length_cons, List.length_nil]; omega) (by decide) (fun ov' h4 co s4 => ?_)
      have s4b : HW.Sep h0 (Blk k (scL m kg ov).toArray 64 :: Sl encCV 1 ov' (rs.map (·.1) ++ [⟨.slice va vn vm, cv⟩]) :: Sl encCV 1 lv [⟨.slice va vn vm, cv⟩] :: Sl encCe 4 (.slice va vn vm) (rowL C m.w i) :: Gc kg m.w m.g C :: rowsP rs :: F) h4 := s4.b4
      refine stL s4b (by rw [sc_len]; omega) co (fun h5 s5 => ?_)
      rw [ev_add, wrap_i64 (by omega) (by omega)]
      refine ⟨⟨i + 1, .inl (by omega), by rw [Int.natCast_add]; rfl, ?_⟩, by simp only; omega⟩
      have e533 : (scL m kg ov).set 533 ov' = scL m kg ov' := by
        unfold scL
        rw [List.set_append_right _ _ (by simp [scH]), List.set_append_right _ _ (by simp [scH, es])]
        simp [scH, es]
      rw [e533] at s5
      have s6 : HW.Sep h0 (rowsP rs :: Sl encCe 4 (.slice va vn vm) (rowL C m.w i) :: Blk k (scL m kg ov').toArray 64 :: Sl encCV 1 ov' (rs.map (·.1) ++ [⟨.slice va vn vm, cv⟩]) :: Gc kg m.w m.g C :: F) h5 := selF (L := [_, _, _, _, _, _]) s5 [5, 3, 0, 1, 4, 2] rfl (by decide) |>.perm (.cons _ (.cons _ (.cons _ (.cons _ (.cons _ (.refl _)))))) |> fun x => (x.b5).tail
      have s7 : HW.Sep h0 (rowsP (rs ++ [(⟨.slice va vn vm, cv⟩, rowL C m.w i)]) :: Blk k (scL m kg ov').toArray 64 :: Sl encCV 1 ov' (rs.map (·.1) ++ [⟨.slice va vn vm, cv⟩]) :: Gc kg m.w m.g C :: F) h5 := by
        unfold rowsP
        rw [List.map_append]
        exact s6.push
      refine Sshut (kg := kg) (ov := ov') (rs := rs ++ [(⟨.slice va vn vm, cv⟩, rowL C m.w i)]) ?_ es ?_
      · rw [List.map_append, e, List.range_succ, List.map_append, List.append_assoc]; rfl
      · rw [List.map_append]
        exact selF (L := [_, _, _, _]) s7 [1, 3, 2, 0] rfl (by decide)
    · rw [if_neg (by simpa using hlt)]
      refine hup ?_ s1
      rw [if_pos h3]
      have : i = q.toNat := by omega
      rw [this]
  · rw [if_neg (by simpa using h3)]
    exact hup (by rw [if_neg h3]) z
end
end Go.Proofs.YtmhhjpfkipficaaDoor


end

section
/- Screens: lines, moves, what is told, what is saved. -/
set_option linter.unusedSimpArgs false
set_option linter.unusedVariables false
namespace Go.Proofs.YtmhhjpfkipficaaDoor
open Go Go.HW

def lineM (m : Sc) : Sc := if m.y = m.bot then { m with late := false } else if m.y < m.g - 1 then { m with late := false, y := m.y + 1 } else { m with late := false }
def lineC (m : Sc) (C : Cel) : Cel := if m.y = m.bot then upC m C 1 else C
def lineO (m : Sc) (C : Cel) (off : List (List Ce)) : List (List Ce) := if m.y = m.bot then upO m C off 1 else off
def wrapM (m : Sc) : Sc := { lineM m with x := 0 }
def backM (m : Sc) : Sc := if m.y = m.top then { m with late := false } else if m.y > 0 then { m with late := false, y := m.y - 1 } else { m with late := false }
def backC (m : Sc) (C : Cel) : Cel := if m.y = m.top then downC m C m.top 1 else C
def moveM (m : Sc) (x y : Int) : Sc := if m.org = true then { m with x := withI x 0 (m.w - 1), y := withI (m.top + withI y (-m.g) m.g) m.top m.bot, late := false } else { m with x := withI x 0 (m.w - 1), y := withI (0 + withI y (-m.g) m.g) 0 (m.g - 1), late := false }
def shiftM (m : Sc) (dx dy : Int) : Sc := { m with x := withI (m.x + withI dx (-m.w) m.w) 0 (m.w - 1), y := withI (m.y + withI dy (-m.g) m.g) (if m.y ≥ m.top then m.top else 0) (if m.y ≤ m.bot then m.bot else m.g - 1), late := false }
def penM (m : Sc) (f b g : Int) : Sc := { m with pf := f, pb := b, pg := g }
def saveM (m : Sc) : Sc := { m with x' := m.x, y' := m.y, late' := m.late, pf' := m.pf, pb' := m.pb, pg' := m.pg, org' := m.org }
def restM (m : Sc) : Sc := { m with x := withI m.x' 0 (m.w - 1), y := withI m.y' 0 (m.g - 1), late := false, pf := m.pf', pb := m.pb', pg := m.pg', org := m.org' }
theorem withI_in {n a b : Int} (h : a ≤ b) : a ≤ withI n a b ∧ withI n a b ≤ b := by unfold withI mnI mxI; split <;> split <;> omega
section
variable {h0 h : Heap} {F : List HP} {R : Value → Heap → Prop} {k kg : Nat} {m : Sc} {C : Cel} {off : List (List Ce)}
theorem st3 {x : Int} {K : Heap → Prop} (z : HW.Sep h0 (Scr k m C off :: F) h) (H : ∀ h', HW.Sep h0 (Scr k { m with x := x } C off :: F) h' → K h') : sSt h (ptr k 3) (.int .i64 x) K := mst (m' := { m with x := x }) z (by decide) trivial (fun _ _ => rfl) rfl rfl rfl H
theorem st4 {y : Int} {K : Heap → Prop} (z : HW.Sep h0 (Scr k m C off :: F) h) (H : ∀ h', HW.Sep h0 (Scr k { m with y := y } C off :: F) h' → K h') : sSt h (ptr k 4) (.int .i64 y) K := mst (m' := { m with y := y }) z (by decide) trivial (fun _ _ => rfl) rfl rfl rfl H
theorem st5 {b : Bool} {K : Heap → Prop} (z : HW.Sep h0 (Scr k m C off :: F) h) (H : ∀ h', HW.Sep h0 (Scr k { m with late := b } C off :: F) h' → K h') : sSt h (ptr k 5) (.bool b) K := mst (m' := { m with late := b }) z (by decide) trivial (fun _ _ => rfl) rfl rfl rfl H
theorem Scroll_spec {n : Int} (hn : i64 n) (z : HW.Sep h0 (Scr k m C off :: F) h) (o : OkS m) (hb : off.length ≤ 1000000) (H : ∀ h', HW.Sep h0 (Scr k { m with late := false } (if n > 0 then upC m C n else downC m C m.top (-(mxI n (-m.g)))) (if n > 0 then upO m C off n else off) :: F) h' → R unit h') : screen_Screen_Scroll_c (ptr k 0) (.int .i64 n) h R := by
  apply screen_Screen_Scroll_runs
  unfold screen_Screen_Scroll_S
  refine cur_spec ?_
  simp only [ev_nil, ev_off, Nat.reduceAdd]
  refine st5 z (fun h1 s1 => ?_)
  rw [ev_gt, ev_if]
  by_cases hp : n > 0
  · rw [if_pos hp, if_pos hp] at H
    rw [if_pos (decide_eq_true hp)]
    exact scrollUp_spec s1 o.t hb H
  · rw [if_neg hp, if_neg hp] at H
    rw [if_neg (by simpa using hp)]
    have og := o.g
    unfold i64 at hn
    simp (disch := omega) only [Nat.zero_add, (rd s1).r19, (rd s1).r2, ev_neg, wrap_i64, Int.zero_sub, ev_max]
    rw [show (if n < -m.g then -m.g else n) = mxI n (-m.g) from rfl]
    have hmx : -512 ≤ mxI n (-m.g) ∧ mxI n (-m.g) ≤ 0 := by unfold mxI; split <;> omega
    exact down_spec s1 o.t H
theorem Line_spec (z : HW.Sep h0 (Scr k m C off :: F) h) (og : 1 ≤ m.g ∧ m.g ≤ 512) (oy : 0 ≤ m.y ∧ m.y < m.g) (ot : 0 ≤ m.top ∧ m.top ≤ m.bot ∧ m.bot < m.g) (hb : off.length ≤ 1000000) (H : ∀ h', HW.Sep h0 (Scr k (lineM m) (lineC m C) (lineO m C off) :: F) h' → R unit h') : screen_Screen_Line_c (ptr k 0) h R := by
  apply screen_Screen_Line_runs
  unfold screen_Screen_Line_S
  unfold lineM lineC lineO at H
  refine cur_spec ?_
  simp only [ev_nil, ev_off, Nat.reduceAdd]
  refine st5 z (fun h1 s1 => ?_)
  simp only [ev_nil, ev_off, Nat.zero_add, (rd s1).r4, (rd s1).r20, (rd s1).r2, ev_eq, ev_if]
  by_cases hp : m.y = m.bot
  · rw [if_pos hp, if_pos hp, if_pos hp] at H
    rw [if_pos (by simpa using hp)]
    exact scrollUp_spec s1 ot hb H
  · rw [if_neg hp, if_neg hp, if_neg hp] at H
    rw [if_neg (by simpa using hp)]
    simp (disch := omega) only [ev_sub, wrap_i64, ev_lt, ev_if]
    by_cases hq : m.y < m.g - 1
    · rw [if_pos hq] at H
      rw [if_pos (by simpa using hq)]
      simp (disch := omega) only [ev_add, wrap_i64]
      exact st4 s1 H
    · rw [if_neg hq] at H
      rw [if_neg (by simpa using hq)]
      exact H _ s1
theorem wrapped_spec (z : HW.Sep h0 (Scr k m C off :: F) h) (o : OkS m) (hb : off.length ≤ 1000000) (H : ∀ h', HW.Sep h0 (Scr k (wrapM m) (lineC m C) (lineO m C off) :: F) h' → R unit h') : screen_Screen_wrapped_c (ptr k 0) h R := by
  apply screen_Screen_wrapped_runs
  unfold screen_Screen_wrapped_S
  refine cur_spec ?_
  simp only [ev_nil, ev_off, Nat.add_zero]
  refine st3 z (fun h1 s1 => ?_)
  have e2 : lineM { m with x := 0 } = wrapM m := by
    unfold wrapM lineM
    simp only
    split
    · rfl
    · split <;> rfl
  exact Line_spec s1 o.g o.y o.t hb (fun h' s' => H h' (by rw [e2] at s'; exact s'))
theorem Back_spec (z : HW.Sep h0 (Scr k m C off :: F) h) (o : OkS m) (H : ∀ h', HW.Sep h0 (Scr k (backM m) (backC m C) off :: F) h' → R unit h') : screen_Screen_Back_c (ptr k 0) h R := by
  apply screen_Screen_Back_runs
  unfold screen_Screen_Back_S
  unfold backM backC at H
  have og := o.g
  have oy := o.y
  refine cur_spec ?_
  simp only [ev_nil, ev_off, Nat.reduceAdd]
  refine st5 z (fun h1 s1 => ?_)
  simp only [ev_nil, ev_off, Nat.zero_add, (rd s1).r4, (rd s1).r19, ev_eq, ev_if]
  by_cases hp : m.y = m.top
  · rw [if_pos hp, if_pos hp] at H
    rw [if_pos (by simpa using hp)]
    exact down_spec s1 o.t H
  · rw [if_neg hp, if_neg hp] at H
    rw [if_neg (by simpa using hp)]
    simp (disch := omega) only [ev_gt, ev_if]
    by_cases hq : m.y > 0
    · rw [if_pos hq] at H
      rw [if_pos (by simpa using hq)]
      simp (disch := omega) only [ev_sub, wrap_i64]
      exact st4 s1 H
    · rw [if_neg hq] at H
      rw [if_neg (by simpa using hq)]
      exact H _ s1
theorem Move_spec {x y : Int} (z : HW.Sep h0 (Scr k m C off :: F) h) (og : 1 ≤ m.g ∧ m.g ≤ 512) (ow : 1 ≤ m.w ∧ m.w ≤ 512) (ot : 0 ≤ m.top ∧ m.top ≤ m.bot ∧ m.bot < m.g) (H : ∀ h', HW.Sep h0 (Scr k (moveM m x y) C off :: F) h' → R unit h') : screen_Screen_Move_c (ptr k 0) (.int .i64 x) (.int .i64 y) h R := by
  apply screen_Screen_Move_runs
  unfold screen_Screen_Move_S
  have hj : ∀ low high : Int, (0 ≤ low ∧ low ≤ 512) → (∀ h', HW.Sep h0 (Scr k { m with x := withI x 0 (m.w - 1), y := withI (low + withI y (-m.g) m.g) low high, late := false } C off :: F) h' → R unit h') → screen_Screen_Move_j1 R (ptr k 0) (.int .i64 x) (.int .i64 y) (ptr k 3) (.int .i64 low) (.int .i64 high) h := by
    intro low high hlow H
    unfold screen_Screen_Move_j1
    obtain ⟨kg, ov, rs, e, es, so⟩ := Sopen z
    have b : Hk k m kg ov h := so.has
    refine ⟨Hk k m kg ov, b, ?_⟩
    simp (disch := omega) only [ev_nil, ev_off, Nat.zero_add, (rd z).r1, ev_sub, wrap_i64]
    refine within_i ⟨b, ?_⟩
    rw [(rdc b).r2]
    refine add_i (by omega) (by omega) ?_
    refine within_i ?_
    simp only [Nat.add_zero, Nat.reduceAdd]
    exact st3 z (fun h1 s1 => st4 s1 (fun h2 s2 => st5 s2 H))
  refine cur_spec ?_
  unfold moveM at H
  simp (disch := omega) only [ev_nil, ev_off, Nat.reduceAdd, Nat.zero_add, (rd z).r2, (rd z).r9, (rd z).r19, (rd z).r20, ev_sub, wrap_i64, ev_if]
  by_cases ho : m.org = true
  · rw [if_pos ho] at H
    rw [if_pos ho]
    exact hj _ _ (by omega) H
  · rw [if_neg ho] at H
    rw [if_neg ho]
    exact hj _ _ (by omega) H
theorem Shift_spec {dx dy : Int} (z : HW.Sep h0 (Scr k m C off :: F) h) (o : OkS m) (H : ∀ h', HW.Sep h0 (Scr k (shiftM m dx dy) C off :: F) h' → R unit h') : screen_Screen_Shift_c (ptr k 0) (.int .i64 dx) (.int .i64 dy) h R := by
  apply screen_Screen_Shift_runs
  unfold screen_Screen_Shift_S
  have og := o.g
  have ow := o.w
  have ox := o.x
  have oy := o.y
  have hj2 : ∀ low high : Int, (∀ h', HW.Sep h0 (Scr k { m with x := withI (m.x + withI dx (-m.w) m.w) 0 (m.w - 1), y := withI (m.y + withI dy (-m.g) m.g) low high, late := false } C off :: F) h' → R unit h') → screen_Screen_Shift_j2 R (ptr k 0) (.int .i64 dx) (.int .i64 dy) (ptr k 3) (.int .i64 low) (.int .i64 high) h := by
    intro low high H
    unfold screen_Screen_Shift_j2
    obtain ⟨kg, ov, rs, e, es, so⟩ := Sopen z
    have b : Hk k m kg ov h := so.has
    refine ⟨Hk k m kg ov, b, ?_⟩
    simp (disch := omega) only [ev_nil, ev_off, Nat.zero_add, Nat.add_zero, (rd z).r1, (rd z).r3, ev_sub, wrap_i64]
    refine add_i (by omega) (by omega) ⟨b, ?_⟩
    rw [(rdc b).r1]
    rw [ev_sub, wrap_i64 (by omega) (by omega)]
    refine within_i ⟨b, ?_⟩
    rw [(rdc b).r4, (rdc b).r2]
    refine add_i (by omega) (by omega) ?_
    refine within_i ?_
    exact st3 z (fun h1 s1 => st4 s1 (fun h2 s2 => st5 s2 H))
  have hj1 : ∀ low : Int, (∀ h', HW.Sep h0 (Scr k { m with x := withI (m.x + withI dx (-m.w) m.w) 0 (m.w - 1), y := withI (m.y + withI dy (-m.g) m.g) low (if m.y ≤ m.bot then m.bot else m.g - 1), late := false } C off :: F) h' → R unit h') → screen_Screen_Shift_j1 R (ptr k 0) (.int .i64 dx) (.int .i64 dy) (ptr k 3) (.int .i64 (m.g - 1)) (.int .i64 low) h := by
    intro low H
    unfold screen_Screen_Shift_j1
    simp (disch := omega) only [ev_nil, ev_off, Nat.reduceAdd, Nat.zero_add, (rd z).r4, (rd z).r20, ev_le, ev_if]
    by_cases hc : m.y ≤ m.bot
    · rw [if_pos hc] at H
      rw [if_pos (decide_eq_true hc)]
      exact hj2 _ _ H
    · rw [if_neg hc] at H
      rw [if_neg (by simpa using hc)]
      exact hj2 _ _ H
  refine cur_spec ?_
  unfold shiftM at H
  simp (disch := omega) only [ev_nil, ev_off, Nat.reduceAdd, Nat.zero_add, (rd z).r2, (rd z).r4, (rd z).r19, ev_sub, wrap_i64, ev_ge, ev_if]
  by_cases hc : m.y ≥ m.top
  · rw [if_pos hc] at H
    rw [if_pos (decide_eq_true hc)]
    exact hj1 _ H
  · rw [if_neg hc] at H
    rw [if_neg (by simpa using hc)]
    exact hj1 _ H
def setL : List Value → Nat → List Value → List Value
  | l, _, [] => l
  | l, o, v :: r => setL (l.set o v) (o + 1) r
theorem putRow_list : ∀ (vs : List Value) (l : List Value) (o : Nat), putRow l.toArray o vs = (setL l o vs).toArray
  | [], _, _ => rfl
  | v :: r, l, o => by rw [putRow, setL, List.setIfInBounds_toArray, putRow_list r]
theorem mldn {o n : Nat} {cs : List Value} {K : Value → Prop} (z : HW.Sep h0 (Scr k m C off :: F) h) (ho : o + n ≤ 21) (hv : ∀ kg ov, ((scL m kg ov).drop o).take n = cs) : sLdN h (ptr k o) n K = K (.agg cs.toArray) := by
  obtain ⟨kg, ov, rs, e, es, so⟩ := Sopen z
  rw [ev_ldn_has so.has (by simp [sc_len]; omega)]
  have : (scL m kg ov).toArray.extract o (o + n) = cs.toArray := by
    rw [← hv kg ov, List.extract_toArray, List.extract_eq_take_drop, Nat.add_sub_cancel_left]
  rw [this]
theorem mstn {o n : Nat} {cs : Array Value} {m' : Sc} {K : Heap → Prop} (z : HW.Sep h0 (Scr k m C off :: F) h) (hs : cs.size = n) (ho : o + n ≤ 21) (hv : ∀ u ∈ cs.toList, Cell1 u) (e : ∀ kg ov, setL (scL m kg ov) o cs.toList = scL m' kg ov) (ew : m'.w = m.w) (eg : m'.g = m.g) (es : m'.st = m.st) (HK : ∀ h', HW.Sep h0 (Scr k m' C off :: F) h' → K h') : sStN h (ptr k o) (.agg cs) n K := by
  obtain ⟨kg, ov, rs, e', es', so⟩ := Sopen z
  refine so.stn hs (by simp [sc_len]; omega) hv (fun h' s' => HK h' ?_)
  rw [putRow_list, e] at s'
  have s2 : HW.Sep h0 (Blk k (scL m' kg ov).toArray 64 :: Gc kg m'.w m'.g C :: Sl encCV 1 ov (rs.map (·.1)) :: rowsP rs :: F) h' := by rw [ew, eg]; exact s'
  exact Sshut e' (by rw [es]; exact es') s2
def penA (f b g : Int) : Array Value := #[.int .i64 f, .int .i64 b, .int .i64 g]
theorem SetPen_spec {f b g : Int} (z : HW.Sep h0 (Scr k m C off :: F) h) (H : ∀ h', HW.Sep h0 (Scr k (penM m f b g) C off :: F) h' → R unit h') : screen_Screen_SetPen_c (ptr k 0) (.agg (penA f b g)) h R := by
  apply screen_Screen_SetPen_runs
  unfold screen_Screen_SetPen_S
  refine z.box (c := penA f b g) rfl (fun b1 h1 s1 => ?_)
  rw [s1.ldall (n := 3) rfl]
  simp only [ev_nil, ev_off, Nat.reduceAdd, Nat.zero_add]
  exact mstn (m' := penM m f b g) s1.tail rfl (by decide) (by intro u hu; simp [penA] at hu; rcases hu with rfl | rfl | rfl <;> trivial) (fun _ _ => rfl) rfl rfl rfl H
def curA (x y : Int) (l : Bool) : Array Value := #[.int .i64 x, .int .i64 y, .bool l]
theorem curA_cell {x y : Int} {l : Bool} : ∀ u ∈ (curA x y l).toList, Cell1 u := by intro u hu; simp [curA] at hu; rcases hu with rfl | rfl | rfl <;> trivial
theorem Cursor_spec (z : HW.Sep h0 (Scr k m C off :: F) h) (H : ∀ h', Ext h h' → R (.agg (curA m.x m.y m.late)) h') : screen_Screen_Cursor_c (ptr k 0) h R := by
  apply screen_Screen_Cursor_runs
  unfold screen_Screen_Cursor_S
  refine (HW.Sep.start h).new (fun b1 h1 s1 => ?_)
  simp only [ev_nil, ev_off, Nat.reduceAdd, Nat.zero_add]
  rw [mldn (z.ext' s1.ext) (cs := [.int .i64 m.x, .int .i64 m.y, .bool m.late]) (by decide) (fun _ _ => rfl)]
  refine s1.stall (cs := curA m.x m.y m.late) rfl rfl curA_cell (fun h2 s2 => ?_)
  rw [s2.ldall (n := 3) rfl]
  exact H h2 s2.ext
theorem Size_spec (z : HW.Sep h0 (Scr k m C off :: F) h) (H : R (.tuple #[.int .i64 m.w, .int .i64 m.g]) h) : screen_Screen_Size_c (ptr k 0) h R := by
  apply screen_Screen_Size_runs
  unfold screen_Screen_Size_S
  simp only [ev_nil, ev_off, Nat.reduceAdd, Nat.zero_add, (rd z).r1, (rd z).r2]
  exact H
theorem mg (z : HW.Sep h0 (Scr k m C off :: F) h) : ∃ kg, (∀ {K : Value → Prop}, sLd h (ptr k 0) K = K (ptr kg 0)) ∧ HW.Sep h0 (Gc kg m.w m.g C :: (HP.ex fun ov : Value => HP.ex fun p : {rs : List (CV × List Ce) // rs.map (·.2) = off ∧ m.st.length = 512} => HP.all [Blk k (scL m kg ov).toArray 64, Sl encCV 1 ov (p.1.map (·.1)), rowsP p.1]) :: F) h := by
  obtain ⟨kg, ov, rs, e, es, so⟩ := Sopen z
  refine ⟨kg, ldL so.has rfl, ?_⟩
  have s2 := selF (L := [_, _, _, _]) so [0, 2, 3, 1] rfl (by decide)
  have s3 := Sep.shut_all (L := [Blk k (scL m kg ov).toArray 64, Sl encCV 1 ov (rs.map (·.1)), rowsP rs]) s2
  have s4 := Sep.shut_ex (A := fun ov : Value => HP.ex fun p : {rs : List (CV × List Ce) // rs.map (·.2) = off ∧ m.st.length = 512} => HP.all [Blk k (scL m kg ov).toArray 64, Sl encCV 1 ov (p.1.map (·.1)), rowsP p.1]) ov (Sep.shut_ex (A := fun p : {rs : List (CV × List Ce) // rs.map (·.2) = off ∧ m.st.length = 512} => HP.all [Blk k (scL m kg ov).toArray 64, Sl encCV 1 ov (p.1.map (·.1)), rowsP p.1]) ⟨rs, e, es⟩ s3)
  exact s4.b1
theorem At_spec {x y : Int} (hx : i64 x) (hy : i64 y) (z : HW.Sep h0 (Scr k m C off :: F) h) (H : ∀ h', Ext h h' → R (.agg (C x y).a) h') : screen_Screen_At_c (ptr k 0) (.int .i64 x) (.int .i64 y) h R := by
  apply screen_Screen_At_runs
  unfold screen_Screen_At_S
  refine (HW.Sep.start h).new (fun b1 h1 s1 => ?_)
  obtain ⟨kg, f0, zg⟩ := mg (z.ext' s1.ext)
  simp only [ev_nil, ev_off, Nat.reduceAdd, Nat.zero_add, f0]
  refine gat_spec hx hy zg (fun h2 e2 => ?_)
  refine (s1.ext' e2).stall (cs := (C x y).a) rfl rfl (ce_cell _) (fun h3 s3 => ?_)
  rw [s3.ldall (n := 4) rfl]
  exact H h3 s3.ext
end
end Go.Proofs.YtmhhjpfkipficaaDoor


end

section
/- The shallow reading of one function, and that the function does it. Written by a program. -/
set_option linter.unusedVariables false
namespace Go.Proofs.YtmhhjpfkipficaaDoor
open Go Go.HW _root_.Go.Proofs.Tryd

def screen_Screen_mend_j3 (next : Value → Heap → Prop) (x6_1 : Value) (h_4 : Heap) : Prop :=
  sAdd .i64 x6_1 (.int .i64 1) fun x22 =>
  next x22 h_4
def screen_Screen_mend_l2 (R : Value → Heap → Prop) (x2 x3 x4 : Value) (next : Value → Heap → Prop) (x6 : Value) (h_3 : Heap) : Prop :=
  sLd h_3 x2 fun x16 =>
  sNil x16 fun x17 =>
  sOff x17 1 fun x18 =>
  sLd h_3 x18 fun x19 =>
  sLt x6 x19 fun x20 =>
  sIf x20 (sLd h_3 x4 fun x23 =>
  sIxS x23 x6 4 fun x25 =>
  sOff x25 0 fun x26 =>
  sLd h_3 x26 fun x27 =>
  sGt x27 (.int .i32 0) fun x28 =>
  sAndH x28 h_3 (fun k_3 =>
  sLd h_3 x4 fun x30 =>
  sIxS x30 x6 4 fun x32 =>
  sOff x32 0 fun x33 =>
  sLd h_3 x33 fun x34 =>
  wide_Width_c x34 h_3 fun x35 h_7 => 
  sEq x35 (.int .i64 2) fun x36 =>
  k_3 x36 h_7) fun x37 h_5 =>
  sAnd x37 (fun k_2 =>
  sAdd .i64 x6 (.int .i64 1) fun x42 =>
  sLd h_5 x2 fun x43 =>
  sNil x43 fun x44 =>
  sOff x44 1 fun x45 =>
  sLd h_5 x45 fun x46 =>
  sLt x42 x46 fun x47 =>
  k_2 x47) fun x48 =>
  sAnd x48 (fun k_1 =>
  sLd h_5 x4 fun x50 =>
  sAdd .i64 x6 (.int .i64 1) fun x52 =>
  sIxS x50 x52 4 fun x53 =>
  sOff x53 0 fun x54 =>
  sLd h_5 x54 fun x55 =>
  sEq x55 (.int .i32 (-1)) fun x56 =>
  k_1 x56) fun x57 =>
  sIf x57 (sAdd .i64 x6 (.int .i64 1) fun x59 =>
  screen_Screen_mend_j3 next x59 h_5) (sOr x37 (fun k =>
  sLd h_5 x4 fun x63 =>
  sIxS x63 x6 4 fun x65 =>
  sOff x65 0 fun x66 =>
  sLd h_5 x66 fun x67 =>
  sEq x67 (.int .i32 (-1)) fun x68 =>
  k x68) fun x69 =>
  sIf x69 (screen_Screen_mend_1_c x6 x2 x3 x4 h_5 fun x72 h_6 => 
  screen_Screen_mend_j3 next x6 h_6) (screen_Screen_mend_j3 next x6 h_5))) (R unit h_3)
def screen_Screen_mend_j1 (R : Value → Heap → Prop) (x2 x3 x4 : Value) (h_2 : Heap) : Prop :=
  sLoop (S := Value) (fun nxt s h => screen_Screen_mend_l2 R x2 x3 x4 (fun x6' h => nxt x6' h) s h) (.int .i64 0) h_2
def screen_Screen_mend_S (x0 x1 : Value) (h : Heap) (R : Value → Heap → Prop) : Prop :=
  sBox h x0 23 fun x2 h => 
  sBox h x1 3 fun x3 h_1 => 
  ∃ C : Heap → Prop, C h_1 ∧ (sLdC C x2 fun x8 =>
  sNil x8 fun x9 =>
  sOff x9 0 fun x10 =>
  sLdC C x10 fun x11 =>
  sLdC C x3 fun x12 =>
  (grid_Grid_Row_c x11 x12 h_1 fun x13 h_8 => 
  sNew h_8 #[.slice none 0 0] 32 fun x4_1 h_9 => C h_9 ∧ (
  sSt h_9 x4_1 x13 fun h_10 => 
  screen_Screen_mend_j1 R x2 x3 x4_1 h_10)) ∧
  (sNew h_1 #[.slice none 0 0] 32 fun x4_2 h_11 => C h_11 ∧ (
  grid_Grid_Row_c x11 x12 h_11 fun x13_1 h_12 => 
  sSt h_12 x4_2 x13_1 fun h_13 => 
  screen_Screen_mend_j1 R x2 x3 x4_2 h_13)))
set_option maxRecDepth 100000 in
theorem screen_Screen_mend_runs {x0 x1 : Value} {h : Heap} {R : Value → Heap → Prop} (H : screen_Screen_mend_S x0 x1 h R) : screen_Screen_mend_c x0 x1 h R := by
 unfold screen_Screen_mend_S at H
 refine runsof (b := (mk (Ap [x0,x1] 71))) call88 func88 rfl fun w0 HA => wp_seq (lwp_list ?_)
 refine lsd 2 HA (dbox H) fun x2 h w H HA => lsd 3 HA (dbox H) fun x3 h_1 w_1 H HA_1 => ls_nil (then_normal ?_)
 refine freq (mk (Ap [x0,x1,x2,x3] 69)) <| wp_seq <| wp_join (fun a w => ∃ (D : Nat → Value) (x4 : Value) (h_2 : Heap),a = (mk ([x0,x1,x2,x3,x4,ud,ud,ud] ++ (Ad D 0 6 (Ap [] 59)))) ∧ At w0 w h_2 ∧ screen_Screen_mend_j1 R x2 x3 x4 h_2) ?_ ?_
 ·obtain ⟨C,HC,H⟩ := H
  refine lwppl (Nat.testBit 224) (Nat.testBit 64) (Nat.testBit 6) [0,1,3,7,0,31,0,127] (Nat.testBit 0) C (.op 0 (.op 1 (.op 2 (.op 3 (.op 4 (.alt (.op 5 (.op 6 (.op 7 .done))) (.op 6 (.op 5 (.op 7 .done))))))))) HA_1 HC fun w_11 HA_11 => lpf 8 rfl (cld isAgg23 H) fun x8 H => lpp 9 rfl (pnil H) fun x9 H => lpp 10 rfl (poff underlying64 rfl sizeOf54 rfl H) fun x10 H => lpf 11 rfl (cld isAgg54 H) fun x11 H => lpf 12 rfl (cld isAgg3 H) (fun x12 H => ?_)
  obtain ⟨Ha,Hb⟩ := H
  refine lp_alt ?_ ?_
  ·have H := Ha
   clear Ha Hb
   refine lpd 13 rfl HA_11 (dcall H) fun x13 h_8 w_12 H HA_12 => lpfr (mk (Ap [x0,x1,x2,x3,ud,ud,ud,ud,x8,x9,x10,x11,x12,x13] 59)) <| lpdc 4 rfl HA_12 (d_alloc zeroValue32 H) fun x4_1 h_9 w_13 H HA_13 => lp_d (d := none) (by kernel_rfl) rfl (by kernel_rfl) (by kernel_rfl) (by kernel_rfl) HA_13 (dstw sizeOf32 H) fun _ h_10 w_14 H HA_14 => lp_nil <| ⟨(gd ([x8,x9,x10,x11,x12,x13])),x4_1,h_10,by kernel_rfl,HA_14,H⟩
  ·have H := Hb
   clear Ha Hb
   refine lpdc 4 rfl HA_11 (d_alloc zeroValue32 H) fun x4_2 h_11 w_15 H HA_15 => lpfr (mk (Ap [x0,x1,x2,x3,x4_2,ud,ud,ud,x8,x9,x10,x11,x12] 60)) <| lpd 13 rfl HA_15 (dcall H) fun x13_1 h_12 w_16 H HA_16 => lp_d (d := none) (by kernel_rfl) rfl (by kernel_rfl) (by kernel_rfl) (by kernel_rfl) HA_16 (dstw sizeOf32 H) fun _ h_13 w_17 H HA_17 => lp_nil <| ⟨(gd ([x8,x9,x10,x11,x12,x13_1])),x4_2,h_13,by kernel_rfl,HA_17,H⟩
 ·rintro _ w_2 ⟨D,x4,h_2,rfl,HA_2,H⟩
  unfold screen_Screen_mend_j1 at H
  refine then_normal <| freq (mk ([x0,x1,x2,x3,x4,ud,ud,ud] ++ (Ad D 0 6 (Ap [] 59)))) <| wp_seq (lwp_list ?_)
  refine ls_al (x := (.func (.func 99) #[] #[x2,x3,x4])) (d := some 14) (by kernel_rfl) (by kernel_rfl) (al_mkf (by kernel_rfl) (by kernel_rfl)) <| lsassign (.func (.func 99) #[] #[x2,x3,x4]) <| ls_nil (then_normal ?_)
  refine freq (mk ([x0,x1,x2,x3,x4,(.func (.func 99) #[] #[x2,x3,x4]),ud,ud] ++ (Ad D 0 6 (Ap [(.func (.func 99) #[] #[x2,x3,x4])] 58)))) <| wp_seq (lwp_list ?_)
  refine lsassign (.int .i64 0) <| ls_nil (then_normal ?_)
  refine freq (mk ([x0,x1,x2,x3,x4,(.func (.func 99) #[] #[x2,x3,x4]),(.int .i64 0),ud] ++ (Ad D 0 6 (Ap [(.func (.func 99) #[] #[x2,x3,x4])] 58)))) <| wp_block ?_
  obtain ⟨I,m,H0,HB⟩ := H
  refine wp_loop (fun a w => ∃ (D_1 : Nat → Value) (x6 : Value) (h_3 : Heap),a = (mk ([x0,x1,x2,x3,x4,(.func (.func 99) #[] #[x2,x3,x4]),x6,(D_1 0)] ++ (Ad D 0 6 ([(.func (.func 99) #[] #[x2,x3,x4])] ++ (Ad D_1 1 58 []))))) ∧ At w0 w h_3 ∧ I x6 h_3) (fun a w => m (a.tmps.getD 6 ud) w.heap) ?_ ?_
  ·exact ⟨(gd (Ap [] 59)),(.int .i64 0),h_2,by kernel_rfl,HA_2,H0⟩
  ·rintro _ w_3 ⟨D_1,x6,h_3,rfl,HA_3,HI⟩
   have H : screen_Screen_mend_l2 R x2 x3 x4 (fun x6' h' => I x6' h' ∧ m x6' h' < m x6 h_3) x6 h_3 := HB x6 h_3 HI
   clear HB H0 HI
   unfold screen_Screen_mend_l2 at H
   refine wp_seq <| wp_seq (lwp_list ?_)
   refine lsmove x6 <| lsy 16 HA_3 (yld isAgg23 H) fun x16 H => lsp 17 (pnil H) fun x17 H => lsp 18 (poff underlying64 rfl sizeOf3 rfl H) fun x18 H => lsy 19 HA_3 (yld isAgg3 H) fun x19 H => lsp 20 (psLt H) fun x20 H => ls_nil (then_normal ?_)
   refine freq (mk ([x0,x1,x2,x3,x4,(.func (.func 99) #[] #[x2,x3,x4]),x6,(D_1 0)] ++ (Ad D 0 6 ([(.func (.func 99) #[] #[x2,x3,x4]),x6,x16,x17,x18,x19,x20] ++ (Ad D_1 7 52 []))))) <| wp_if rfl H (fun H => ?_) (fun H => ?_)
   ·refine wp_skip <| then_normal <| freq (mk ([x0,x1,x2,x3,x4,(.func (.func 99) #[] #[x2,x3,x4]),x6,(D_1 0)] ++ (Ad D 0 6 ([(.func (.func 99) #[] #[x2,x3,x4]),x6,x16,x17,x18,x19,x20] ++ (Ad D_1 7 52 []))))) <| wp_seq <| wp_join (fun a w => ∃ (D_2 : Nat → Value) (x6_1 : Value) (h_4 : Heap),a = (mk ([x0,x1,x2,x3,x4,(.func (.func 99) #[] #[x2,x3,x4]),x6_1,(D_2 0)] ++ (Ad D 0 6 ([(.func (.func 99) #[] #[x2,x3,x4]),x6,x16,x17,x18,x19,x20,(D_1 7),(D_1 8)] ++ (Ad D_2 1 50 []))))) ∧ At w0 w h_4 ∧ screen_Screen_mend_j3 (fun x6' h' => I x6' h' ∧ m x6' h' < m x6 h_3) x6_1 h_4) ?_ ?_
    ·refine wp_block <| wp_seq (lwp_list ?_)
     refine lsy 23 HA_3 (yld isAgg32 H) fun x23 H => lsmove x6 <| lsp 25 (pixs underlying32 sizeOf31 H) fun x25 H => lsp 26 (poff underlying31 rfl sizeOf21 rfl H) fun x26 H => lsy 27 HA_3 (yld isAgg21 H) fun x27 H => lsp 28 (psGt H) fun x28 H => lsmove x28 <| ls_andh [(),(),(),(),(),(),(),()] (fun K a w => ∃ (D_3 : Nat → Value) (x37 : Value) (h_5 : Heap),a = (mk ([x0,x1,x2,x3,x4,(.func (.func 99) #[] #[x2,x3,x4]),x6,(D_1 0)] ++ (Ad D 0 6 ([(.func (.func 99) #[] #[x2,x3,x4]),x6,x16,x17,x18,x19,x20,(D_1 7),(D_1 8),x23,x6,x25,x26,x27,x28,x28] ++ (Ad D_3 0 7 ([x37] ++ (Ad D_1 24 35 []))))))) ∧ At w0 w h_5 ∧ K x37 h_5) H (fun hb_3 H => ?_) (fun hb_3 H => ?_) ?_
     ·refine lsy (hg := by rw [hb_3]; kernel_rfl) 30 HA_3 (yld isAgg32 H) fun x30 H => lsmove (hg := by rw [hb_3]; kernel_rfl) x6 <| lsp (hg := by rw [hb_3]; kernel_rfl) 32 (pixs underlying32 sizeOf31 H) fun x32 H => lsp (hg := by rw [hb_3]; kernel_rfl) 33 (poff underlying31 rfl sizeOf21 rfl H) fun x33 H => lsy (hg := by rw [hb_3]; kernel_rfl) 34 HA_3 (yld isAgg21 H) fun x34 H => lsd (hg := by rw [hb_3]; kernel_rfl) 35 HA_3 (dcall H) fun x35 h_7 w_10 H HA_10 => lsp (hg := by rw [hb_3]; kernel_rfl) 36 (psEq H) fun x36 H => lspickt x36 (by rw [hb_3]; kernel_rfl) <| ls_nil (then_normal ?_)
      exact ⟨(gd ([x30,x6,x32,x33,x34,x35,x36])),x36,h_7,by kernel_rfl,HA_10,H⟩
     ·refine lsskip (hg := by rw [hb_3]; kernel_rfl) 30 <| lsskip (hg := by rw [hb_3]; kernel_rfl) 31 <| lsskip (hg := by rw [hb_3]; kernel_rfl) 32 <| lsskip (hg := by rw [hb_3]; kernel_rfl) 33 <| lsskip (hg := by rw [hb_3]; kernel_rfl) 34 <| lsskip (hg := by rw [hb_3]; kernel_rfl) 35 <| lsskip (hg := by rw [hb_3]; kernel_rfl) 36 <| lspickf (.bool false) (by rw [hb_3]; kernel_rfl) <| ls_nil (then_normal ?_)
      exact ⟨(gd (Ap [] 7)),(.bool false),h_3,by kernel_rfl,HA_3,H⟩
     ·rintro _ w_5 ⟨D_3,x37,h_5,rfl,HA_5,H⟩
      refine lsassign x37 <| ls_nil (then_normal ?_)
      refine freq (mk ([x0,x1,x2,x3,x4,(.func (.func 99) #[] #[x2,x3,x4]),x6,x37] ++ (Ad D 0 6 ([(.func (.func 99) #[] #[x2,x3,x4]),x6,x16,x17,x18,x19,x20,(D_1 7),(D_1 8),x23,x6,x25,x26,x27,x28,x28] ++ (Ad D_3 0 7 ([x37] ++ (Ad D_1 24 35 []))))))) <| wp_block <| wp_seq (lwp_list ?_)
      refine lsmove x37 <| lsmove x37 <| ls_and [(),(),(),(),(),(),(),()] (fun K a w => ∃ (D_4 : Nat → Value) (x48 : Value),a = (mk ([x0,x1,x2,x3,x4,(.func (.func 99) #[] #[x2,x3,x4]),x6,x37] ++ (Ad D 0 6 ([(.func (.func 99) #[] #[x2,x3,x4]),x6,x16,x17,x18,x19,x20,(D_1 7),(D_1 8),x23,x6,x25,x26,x27,x28,x28] ++ (Ad D_3 0 7 ([x37,(D_1 24),x37,x37] ++ (Ad D_4 0 7 ([x48] ++ (Ad D_1 35 24 []))))))))) ∧ At w0 w h_5 ∧ K x48) H (fun hb_2 H => ?_) (fun hb_2 H => ?_) ?_
      ·refine lsmove (hg := by rw [hb_2]; kernel_rfl) x6 <| lsp (hg := by rw [hb_2]; kernel_rfl) 42 (padd H) fun x42 H => lsy (hg := by rw [hb_2]; kernel_rfl) 43 HA_5 (yld isAgg23 H) fun x43 H => lsp (hg := by rw [hb_2]; kernel_rfl) 44 (pnil H) fun x44 H => lsp (hg := by rw [hb_2]; kernel_rfl) 45 (poff underlying64 rfl sizeOf3 rfl H) fun x45 H => lsy (hg := by rw [hb_2]; kernel_rfl) 46 HA_5 (yld isAgg3 H) fun x46 H => lsp (hg := by rw [hb_2]; kernel_rfl) 47 (psLt H) fun x47 H => lspickt x47 (by rw [hb_2]; kernel_rfl) <| ls_nil (then_normal ?_)
       exact ⟨(gd ([x6,x42,x43,x44,x45,x46,x47])),x47,by kernel_rfl,HA_5,H⟩
      ·refine lsskip (hg := by rw [hb_2]; kernel_rfl) 41 <| lsskip (hg := by rw [hb_2]; kernel_rfl) 42 <| lsskip (hg := by rw [hb_2]; kernel_rfl) 43 <| lsskip (hg := by rw [hb_2]; kernel_rfl) 44 <| lsskip (hg := by rw [hb_2]; kernel_rfl) 45 <| lsskip (hg := by rw [hb_2]; kernel_rfl) 46 <| lsskip (hg := by rw [hb_2]; kernel_rfl) 47 <| lspickf (.bool false) (by rw [hb_2]; kernel_rfl) <| ls_nil (then_normal ?_)
       exact ⟨(gd (Ap [] 7)),(.bool false),by kernel_rfl,HA_5,H⟩
      ·rintro _ w_6 ⟨D_4,x48,rfl,HA_6,H⟩
       refine lsmove x48 <| ls_and [(),(),(),(),(),(),(),()] (fun K a w => ∃ (D_5 : Nat → Value) (x57 : Value),a = (mk ([x0,x1,x2,x3,x4,(.func (.func 99) #[] #[x2,x3,x4]),x6,x37] ++ (Ad D 0 6 ([(.func (.func 99) #[] #[x2,x3,x4]),x6,x16,x17,x18,x19,x20,(D_1 7),(D_1 8),x23,x6,x25,x26,x27,x28,x28] ++ (Ad D_3 0 7 ([x37,(D_1 24),x37,x37] ++ (Ad D_4 0 7 ([x48,x48] ++ (Ad D_5 0 7 ([x57] ++ (Ad D_1 44 15 []))))))))))) ∧ At w0 w h_5 ∧ K x57) H (fun hb_1 H => ?_) (fun hb_1 H => ?_) ?_
       ·refine lsy (hg := by rw [hb_1]; kernel_rfl) 50 HA_6 (yld isAgg32 H) fun x50 H => lsmove (hg := by rw [hb_1]; kernel_rfl) x6 <| lsp (hg := by rw [hb_1]; kernel_rfl) 52 (padd H) fun x52 H => lsp (hg := by rw [hb_1]; kernel_rfl) 53 (pixs underlying32 sizeOf31 H) fun x53 H => lsp (hg := by rw [hb_1]; kernel_rfl) 54 (poff underlying31 rfl sizeOf21 rfl H) fun x54 H => lsy (hg := by rw [hb_1]; kernel_rfl) 55 HA_6 (yld isAgg21 H) fun x55 H => lsp (hg := by rw [hb_1]; kernel_rfl) 56 (psEq H) fun x56 H => lspickt x56 (by rw [hb_1]; kernel_rfl) <| ls_nil (then_normal ?_)
        exact ⟨(gd ([x50,x6,x52,x53,x54,x55,x56])),x56,by kernel_rfl,HA_6,H⟩
       ·refine lsskip (hg := by rw [hb_1]; kernel_rfl) 50 <| lsskip (hg := by rw [hb_1]; kernel_rfl) 51 <| lsskip (hg := by rw [hb_1]; kernel_rfl) 52 <| lsskip (hg := by rw [hb_1]; kernel_rfl) 53 <| lsskip (hg := by rw [hb_1]; kernel_rfl) 54 <| lsskip (hg := by rw [hb_1]; kernel_rfl) 55 <| lsskip (hg := by rw [hb_1]; kernel_rfl) 56 <| lspickf (.bool false) (by rw [hb_1]; kernel_rfl) <| ls_nil (then_normal ?_)
        exact ⟨(gd (Ap [] 7)),(.bool false),by kernel_rfl,HA_6,H⟩
       ·rintro _ w_7 ⟨D_5,x57,rfl,HA_7,H⟩
        refine lsassign x57 <| ls_nil (then_normal ?_)
        refine freq (mk ([x0,x1,x2,x3,x4,(.func (.func 99) #[] #[x2,x3,x4]),x6,x37] ++ (Ad D 0 6 ([(.func (.func 99) #[] #[x2,x3,x4]),x6,x16,x17,x18,x19,x20,(D_1 7),(D_1 8),x23,x6,x25,x26,x27,x28,x28] ++ (Ad D_3 0 7 ([x37,x57,x37,x37] ++ (Ad D_4 0 7 ([x48,x48] ++ (Ad D_5 0 7 ([x57] ++ (Ad D_1 44 15 []))))))))))) <| wp_if rfl H (fun H => ?_) (fun H => ?_)
        ·refine lwp_list <| lsmove x6 <| lsp 59 (padd H) fun x59 H => lsassign x59 <| ls_nil <| block_normal <| block_normal <| ⟨(gd ([x37,x23,x6,x25,x26,x27,x28,x28] ++ (Ad D_3 0 7 ([x37,x57,x37,x37] ++ (Ad D_4 0 7 ([x48,x48] ++ (Ad D_5 0 7 ([x57,x6,x59] ++ (Ad D_1 46 13 []))))))))),x59,h_5,by kernel_rfl,HA_7,H⟩
        ·refine wp_seq (lwp_list ?_)
         refine lsmove x37 <| lsmove x37 <| ls_or [(),(),(),(),(),(),()] (fun K a w => ∃ (D_6 : Nat → Value) (x69 : Value),a = (mk ([x0,x1,x2,x3,x4,(.func (.func 99) #[] #[x2,x3,x4]),x6,x37] ++ (Ad D 0 6 ([(.func (.func 99) #[] #[x2,x3,x4]),x6,x16,x17,x18,x19,x20,(D_1 7),(D_1 8),x23,x6,x25,x26,x27,x28,x28] ++ (Ad D_3 0 7 ([x37,x57,x37,x37] ++ (Ad D_4 0 7 ([x48,x48] ++ (Ad D_5 0 7 ([x57,(D_1 44),(D_1 45),(D_1 46),x37,x37] ++ (Ad D_6 0 6 [x69,(D_1 56),(D_1 57),(D_1 58)]))))))))))) ∧ At w0 w h_5 ∧ K x69) H (fun hb H => ?_) (fun hb H => ?_) ?_
         ·refine lsy (hg := by rw [hb]; kernel_rfl) 63 HA_7 (yld isAgg32 H) fun x63 H => lsmove (hg := by rw [hb]; kernel_rfl) x6 <| lsp (hg := by rw [hb]; kernel_rfl) 65 (pixs underlying32 sizeOf31 H) fun x65 H => lsp (hg := by rw [hb]; kernel_rfl) 66 (poff underlying31 rfl sizeOf21 rfl H) fun x66 H => lsy (hg := by rw [hb]; kernel_rfl) 67 HA_7 (yld isAgg21 H) fun x67 H => lsp (hg := by rw [hb]; kernel_rfl) 68 (psEq H) fun x68 H => lspickf x68 (by rw [hb]; kernel_rfl) <| ls_nil (then_normal ?_)
          exact ⟨(gd ([x63,x6,x65,x66,x67,x68])),x68,by kernel_rfl,HA_7,H⟩
         ·refine lsskip (hg := by rw [hb]; kernel_rfl) 63 <| lsskip (hg := by rw [hb]; kernel_rfl) 64 <| lsskip (hg := by rw [hb]; kernel_rfl) 65 <| lsskip (hg := by rw [hb]; kernel_rfl) 66 <| lsskip (hg := by rw [hb]; kernel_rfl) 67 <| lsskip (hg := by rw [hb]; kernel_rfl) 68 <| lspickt (.bool true) (by rw [hb]; kernel_rfl) <| ls_nil (then_normal ?_)
          exact ⟨(gd (Ap [] 6)),(.bool true),by kernel_rfl,HA_7,H⟩
         ·rintro _ w_8 ⟨D_6,x69,rfl,HA_8,H⟩
          refine lsassign x69 <| ls_nil (then_normal ?_)
          refine freq (mk ([x0,x1,x2,x3,x4,(.func (.func 99) #[] #[x2,x3,x4]),x6,x37] ++ (Ad D 0 6 ([(.func (.func 99) #[] #[x2,x3,x4]),x6,x16,x17,x18,x19,x20,(D_1 7),(D_1 8),x23,x6,x25,x26,x27,x28,x28] ++ (Ad D_3 0 7 ([x37,x57,x37,x37] ++ (Ad D_4 0 7 ([x48,x48] ++ (Ad D_5 0 7 ([x57,(D_1 44),(D_1 45),x69,x37,x37] ++ (Ad D_6 0 6 [x69,(D_1 56),(D_1 57),(D_1 58)]))))))))))) <| wp_if rfl H (fun H => ?_) (fun H => ?_)
          ·refine lwp_list <| lsmove (.func (.func 99) #[] #[x2,x3,x4]) <| lsmove x6 <| lsd 72 HA_8 (d_callv (fs := #[]) (us := #[x6]) (cs := #[x2,x3,x4]) (by kernel_rfl) (by kernel_rfl) (by kernel_rfl) H) fun x72 h_6 w_9 H HA_9 => ls_nil <| block_normal <| block_normal <| ⟨(gd ([x37,x23,x6,x25,x26,x27,x28,x28] ++ (Ad D_3 0 7 ([x37,x57,x37,x37] ++ (Ad D_4 0 7 ([x48,x48] ++ (Ad D_5 0 7 ([x57,(D_1 44),(D_1 45),x69,x37,x37] ++ (Ad D_6 0 6 [x69,(.func (.func 99) #[] #[x2,x3,x4]),x6,x72]))))))))),x6,h_6,by kernel_rfl,HA_9,H⟩
          ·refine wp_skip <| block_normal <| block_normal <| ⟨(gd ([x37,x23,x6,x25,x26,x27,x28,x28] ++ (Ad D_3 0 7 ([x37,x57,x37,x37] ++ (Ad D_4 0 7 ([x48,x48] ++ (Ad D_5 0 7 ([x57,(D_1 44),(D_1 45),x69,x37,x37] ++ (Ad D_6 0 6 [x69,(D_1 56),(D_1 57),(D_1 58)]))))))))),x6,h_5,by kernel_rfl,HA_8,H⟩
    ·rintro _ w_4 ⟨D_2,x6_1,h_4,rfl,HA_4,H⟩
     unfold screen_Screen_mend_j3 at H
     refine then_normal <| freq (mk ([x0,x1,x2,x3,x4,(.func (.func 99) #[] #[x2,x3,x4]),x6_1,(D_2 0)] ++ (Ad D 0 6 ([(.func (.func 99) #[] #[x2,x3,x4]),x6,x16,x17,x18,x19,x20,(D_1 7),(D_1 8)] ++ (Ad D_2 1 50 []))))) <| lwp_list <| lsmove x6_1 <| lsp 22 (padd H) fun x22 H => lsassign x22 <| ls_nil <| ⟨⟨(gd ([(D_2 0),x6,x16,x17,x18,x19,x20,x6_1,x22] ++ (Ad D_2 1 50 []))),x22,h_4,by kernel_rfl,HA_4,H.1⟩, loop_lt HA_4.heap HA_3.heap (by kernel_rfl) (by kernel_rfl) H.2⟩
   ·refine wp_exit <| then_exit <| then_exit <| block_exit <| end0 (results88) (by kernel_rfl) HA_3 H _ (.inl rfl)

end Go.Proofs.YtmhhjpfkipficaaDoor


end

section
/- The shallow reading of one function, and that the function does it. Written by a program. -/
set_option linter.unusedVariables false
namespace Go.Proofs.YtmhhjpfkipficaaDoor
open Go Go.HW _root_.Go.Proofs.Tryd

def screen_Screen_mend_1_S (x0 x1 x2 x3 : Value) (h : Heap) (R : Value → Heap → Prop) : Prop :=
  sLd h x1 fun x5 =>
  sNil x5 fun x6 =>
  sOff x6 0 fun x7 =>
  sLd h x7 fun x8 =>
  sLd h x2 fun x10 =>
  sLd h x3 fun x11 =>
  sIxS x11 x0 4 fun x13 =>
  sOff x13 1 fun x14 =>
  sLdN h x14 3 fun x15 =>
  sBuild #[.int .i32 0, .int .i64 0, .int .i64 0, .int .i64 0] [(1, 3, x15)] fun x16 =>
  grid_Grid_Set_c x8 x0 x10 x16 h fun x17 h => 
  R unit h
set_option maxRecDepth 100000 in
theorem screen_Screen_mend_1_runs {x0 x1 x2 x3 : Value} {h : Heap} {R : Value → Heap → Prop} (H : screen_Screen_mend_1_S x0 x1 x2 x3 h R) : screen_Screen_mend_1_c x0 x1 x2 x3 h R := by
 unfold screen_Screen_mend_1_S at H
 refine runsof (b := (mk (Ap [x0,x1,x2,x3] 14))) call99 func99 rfl fun w0 HA => lwpmx (Nat.testBit 4096) (Nat.testBit 0) (Nat.testBit 2966) [0,1,3,7,0,0,0,0,192,448,960,1984,4095] (Nat.testBit 0) (fun h' => h' = h) [0,1,2,3,4,5,6,7,8,9,10,11,12] HA rfl fun w HA => lmf 5 rfl (of_eq (yld isAgg23 H)) fun x5 H => lmp 6 rfl (pnil H) fun x6 H => lmp 7 rfl (poff underlying64 rfl sizeOf54 rfl H) fun x7 H => lmf 8 rfl (of_eq (yld isAgg54 H)) fun x8 H => lmal x0 9 rfl (almove) <| lmf 10 rfl (of_eq (yld isAgg3 H)) fun x10 H => lmf 11 rfl (of_eq (yld isAgg32 H)) fun x11 H => lmal x0 12 rfl (almove) <| lmp 13 rfl (pixs underlying32 sizeOf31 H) fun x13 H => lmp 14 rfl (poff underlying31 rfl sizeOf29 rfl H) fun x14 H => lmf 15 rfl (of_eq (yldn isAgg29 sizeOf29 H)) (fun x15 H => ?_)
 refine lmp 16 rfl (plit (pl := [(0,1),(1,3)]) zeroValue31 underlying31 ⟨(by kernel_rfl),sizeOf21,(by kernel_rfl),sizeOf29,trivial⟩ H) fun x16 H => lmd 17 rfl HA (dcall H) fun x17 h w_1 H HA_1 => lm_nil <| end0 (results99) (by kernel_rfl) HA_1 H _ (.inl rfl)

end Go.Proofs.YtmhhjpfkipficaaDoor


end

section
/- The shallow reading of one function, and that the function does it. Written by a program. -/
set_option linter.unusedVariables false
namespace Go.Proofs.YtmhhjpfkipficaaDoor
open Go Go.HW _root_.Go.Proofs.Tryd

def screen_Screen_wipe_S (x0 x1 x2 x3 : Value) (h : Heap) (R : Value → Heap → Prop) : Prop :=
  ∃ C : Heap → Prop, C h ∧ (sNil x0 fun x9 =>
  sOff x9 0 fun x10 =>
  sLdC C x10 fun x11 =>
  sSub .i64 x3 x2 fun x16 =>
  sBuild #[.int .i64 0, .int .i64 0, .int .i64 0, .int .i64 0] [(0, 1, x2), (1, 1, x1), (2, 1, x16), (3, 1, (.int .i64 1))] fun x17 =>
  screen_Screen_blank_c x0 h fun x19 h => C h ∧ (
  grid_Grid_Fill_c x11 x17 x19 h fun x20 h_1 => 
  screen_Screen_mend_c x0 x1 h_1 fun x23 h_2 => 
  R unit h_2))
set_option maxRecDepth 100000 in
theorem screen_Screen_wipe_runs {x0 x1 x2 x3 : Value} {h : Heap} {R : Value → Heap → Prop} (H : screen_Screen_wipe_S x0 x1 x2 x3 h R) : screen_Screen_wipe_c x0 x1 x2 x3 h R := by
 unfold screen_Screen_wipe_S at H
 refine runsof (b := (mk (Ap [x0,x1,x2,x3] 20))) call78 func78 rfl fun w0 HA => wp_seq ?_
 obtain ⟨C,HC,H⟩ := H
 refine lwpmx (Nat.testBit 6144) (Nat.testBit 2048) (Nat.testBit 2039) [0,1,3,7,0,0,0,0,192,496,0,1024,4095] (Nat.testBit 0) C [0,1,2,3,4,5,6,7,8,9,10,11,12] HA HC fun w HA => lmal x0 8 rfl (almove) <| lmp 9 rfl (pnil H) fun x9 H => lmp 10 rfl (poff underlying64 rfl sizeOf54 rfl H) fun x10 H => lmf 11 rfl (cld isAgg54 H) fun x11 H => lmal x2 12 rfl (almove) <| lmal x1 13 rfl (almove) <| lmal x3 14 rfl (almove) <| lmal x2 15 rfl (almove) <| lmp 16 rfl (psub H) fun x16 H => lmp 17 rfl (plit (pl := [(0,1),(1,1),(2,1),(3,1)]) zeroValue83 underlying83 ⟨(by kernel_rfl),sizeOf3,(by kernel_rfl),sizeOf3,(by kernel_rfl),sizeOf3,(by kernel_rfl),sizeOf3,trivial⟩ H) fun x17 H => lmal x0 18 rfl (almove) <| lmdc 19 rfl HA (dcall H) (fun x19 h w_1 H HA_1 => ?_)
 refine lmd 20 rfl HA_1 (dcall H) fun x20 h_1 w_2 H HA_2 => lm_nil <| then_normal <| freq (mk (Aq [x0,x1,x2,x3] 4 [x0,x9,x10,x11,x2,x1,x3,x2,x16,x17,x0,x19,x20,ud,ud,ud])) <| lwp_list <| lsmove x0 <| lsmove x1 <| lsd 23 HA_2 (dcall H) fun x23 h_2 w_3 H HA_3 => ls_nil <| end0 (results78) (by kernel_rfl) HA_3 H _ (.inl rfl)

end Go.Proofs.YtmhhjpfkipficaaDoor


end

section
/- The shallow reading of one function, and that the function does it. Written by a program. -/
set_option linter.unusedVariables false
namespace Go.Proofs.YtmhhjpfkipficaaDoor
open Go Go.HW _root_.Go.Proofs.Tryd

def screen_Screen_part_j1 (R : Value → Heap → Prop) (x0 x1 x2 x3 : Value) (h_4 : Heap) : Prop :=
  sNil x0 fun x43 =>
  sOff x43 0 fun x44 =>
  sLd h_4 x44 fun x45 =>
  sAdd .i64 x1 x2 fun x48 =>
  grid_Grid_At_c x45 x48 x3 h_4 fun x50 h_5 => 
  sNew h_5 #[.int .i32 0, .int .i64 0, .int .i64 0, .int .i64 0] 31 fun x9 h_6 => 
  sStN h_6 x9 x50 4 fun h_7 => 
  sOff x9 0 fun x51 =>
  sLd h_7 x51 fun x52 =>
  sEq x52 (.int .i32 (-1)) fun x53 =>
  sIf x53 (sNil x0 fun x55 =>
  sOff x55 0 fun x56 =>
  sLd h_7 x56 fun x57 =>
  sAdd .i64 x1 x2 fun x60 =>
  sOff x9 1 fun x62 =>
  sLdN h_7 x62 3 fun x63 =>
  sBuild #[.int .i32 0, .int .i64 0, .int .i64 0, .int .i64 0] [(1, 3, x63)] fun x64 =>
  grid_Grid_Set_c x57 x60 x3 x64 h_7 fun x65 h_8 => 
  R unit h_8) (R unit h_7)
def screen_Screen_part_S (x0 x1 x2 x3 : Value) (h : Heap) (R : Value → Heap → Prop) : Prop :=
  sNil x0 fun x11 =>
  sOff x11 0 fun x12 =>
  sLd h x12 fun x13 =>
  sSub .i64 x1 (.int .i64 1) fun x15 =>
  grid_Grid_At_c x13 x15 x3 h fun x17 h => 
  sNew h #[.int .i32 0, .int .i64 0, .int .i64 0, .int .i64 0] 31 fun x8 h_1 => 
  sStN h_1 x8 x17 4 fun h_2 => 
  sGt x1 (.int .i64 0) fun x19 =>
  sAnd x19 (fun k_1 =>
  sOff x8 0 fun x21 =>
  sLd h_2 x21 fun x22 =>
  sGt x22 (.int .i32 0) fun x23 =>
  k_1 x23) fun x24 =>
  sAndH x24 h_2 (fun k =>
  sOff x8 0 fun x26 =>
  sLd h_2 x26 fun x27 =>
  wide_Width_c x27 h_2 fun x28 h_10 => 
  sEq x28 (.int .i64 2) fun x29 =>
  k x29 h_10) fun x30 h_3 =>
  sIf x30 (sNil x0 fun x32 =>
  sOff x32 0 fun x33 =>
  sLd h_3 x33 fun x34 =>
  sSub .i64 x1 (.int .i64 1) fun x36 =>
  sOff x8 1 fun x38 =>
  sLdN h_3 x38 3 fun x39 =>
  sBuild #[.int .i32 0, .int .i64 0, .int .i64 0, .int .i64 0] [(1, 3, x39)] fun x40 =>
  grid_Grid_Set_c x34 x36 x3 x40 h_3 fun x41 h_9 => 
  screen_Screen_part_j1 R x0 x1 x2 x3 h_9) (screen_Screen_part_j1 R x0 x1 x2 x3 h_3)
set_option maxRecDepth 100000 in
theorem screen_Screen_part_runs {x0 x1 x2 x3 : Value} {h : Heap} {R : Value → Heap → Prop} (H : screen_Screen_part_S x0 x1 x2 x3 h R) : screen_Screen_part_c x0 x1 x2 x3 h R := by
 unfold screen_Screen_part_S at H
 refine runsof (b := (mk (Ap [x0,x1,x2,x3] 62))) call34 func34 rfl fun w0 HA => wp_seq <| wp_seq (lwp_list ?_)
 refine lsmove x0 <| lsp 11 (pnil H) fun x11 H => lsp 12 (poff underlying64 rfl sizeOf54 rfl H) fun x12 H => lsy 13 HA (yld isAgg54 H) fun x13 H => lsmove x1 <| lsp 15 (psub H) fun x15 H => lsmove x3 <| lsd 17 HA (dcall H) fun x17 h w H HA => lsd 8 HA (d_alloc zeroValue31 H) fun x8 h_1 w_1 H HA_1 => lsdn HA_1 (dstn sizeOf31 H) fun _ h_2 w_2 H HA_2 => ls_nil (then_normal ?_)
 refine freq (mk (Ap [x0,x1,x2,x3,ud,ud,ud,ud,x8,ud,x0,x11,x12,x13,x1,x15,x3,x17] 48)) <| wp_seq (lwp_list ?_)
 refine lsmove x1 <| lsp 19 (psGt H) fun x19 H => lsmove x19 <| ls_and [(),(),(),()] (fun K a w => ∃ (D : Nat → Value) (x24 : Value),a = (mk (Ap [x0,x1,x2,x3,ud,ud,ud,ud,x8,ud,x0,x11,x12,x13,x1,x15,x3,x17,x1,x19,x19,(D 0),(D 1),(D 2),x24] 41)) ∧ At w0 w h_2 ∧ K x24) H (fun hb_1 H => ?_) (fun hb_1 H => ?_) ?_
 ·refine lsp (hg := by rw [hb_1]; kernel_rfl) 21 (poff underlying31 rfl sizeOf21 rfl H) fun x21 H => lsy (hg := by rw [hb_1]; kernel_rfl) 22 HA_2 (yld isAgg21 H) fun x22 H => lsp (hg := by rw [hb_1]; kernel_rfl) 23 (psGt H) fun x23 H => lspickt x23 (by rw [hb_1]; kernel_rfl) <| ls_nil (then_normal ?_)
  exact ⟨(gd ([x21,x22,x23])),x23,by kernel_rfl,HA_2,H⟩
 ·refine lsskip (hg := by rw [hb_1]; kernel_rfl) 21 <| lsskip (hg := by rw [hb_1]; kernel_rfl) 22 <| lsskip (hg := by rw [hb_1]; kernel_rfl) 23 <| lspickf (.bool false) (by rw [hb_1]; kernel_rfl) <| ls_nil (then_normal ?_)
  exact ⟨(gd ([ud,ud,ud])),(.bool false),by kernel_rfl,HA_2,H⟩
 ·rintro _ w_3 ⟨D,x24,rfl,HA_3,H⟩
  refine lsmove x24 <| ls_andh [(),(),(),(),()] (fun K a w => ∃ (D_1 : Nat → Value) (x30 : Value) (h_3 : Heap),a = (mk ([x0,x1,x2,x3,ud,ud,ud,ud,x8,ud,x0,x11,x12,x13,x1,x15,x3,x17,x1,x19,x19,(D 0),(D 1),(D 2),x24,x24] ++ (Ad D_1 0 4 (Ap [x30] 35)))) ∧ At w0 w h_3 ∧ K x30 h_3) H (fun hb H => ?_) (fun hb H => ?_) ?_
  ·refine lsp (hg := by rw [hb]; kernel_rfl) 26 (poff underlying31 rfl sizeOf21 rfl H) fun x26 H => lsy (hg := by rw [hb]; kernel_rfl) 27 HA_3 (yld isAgg21 H) fun x27 H => lsd (hg := by rw [hb]; kernel_rfl) 28 HA_3 (dcall H) fun x28 h_10 w_13 H HA_13 => lsp (hg := by rw [hb]; kernel_rfl) 29 (psEq H) fun x29 H => lspickt x29 (by rw [hb]; kernel_rfl) <| ls_nil (then_normal ?_)
   exact ⟨(gd ([x26,x27,x28,x29])),x29,h_10,by kernel_rfl,HA_13,H⟩
  ·refine lsskip (hg := by rw [hb]; kernel_rfl) 26 <| lsskip (hg := by rw [hb]; kernel_rfl) 27 <| lsskip (hg := by rw [hb]; kernel_rfl) 28 <| lsskip (hg := by rw [hb]; kernel_rfl) 29 <| lspickf (.bool false) (by rw [hb]; kernel_rfl) <| ls_nil (then_normal ?_)
   exact ⟨(gd ([ud,ud,ud,ud])),(.bool false),h_2,by kernel_rfl,HA_3,H⟩
  ·rintro _ w_4 ⟨D_1,x30,h_3,rfl,HA_4,H⟩
   refine ls_nil (then_normal ?_)
   refine freq (mk ([x0,x1,x2,x3,ud,ud,ud,ud,x8,ud,x0,x11,x12,x13,x1,x15,x3,x17,x1,x19,x19,(D 0),(D 1),(D 2),x24,x24] ++ (Ad D_1 0 4 (Ap [x30] 35)))) <| wp_join (fun a w => ∃ (D_2 : Nat → Value) (h_4 : Heap),a = (mk ([x0,x1,x2,x3,ud,ud,ud,ud,x8,ud,x0,x11,x12,x13,x1,x15,x3,x17,x1,x19,x19,(D 0),(D 1),(D 2),x24,x24] ++ (Ad D_1 0 4 ([x30] ++ (Ad D_2 0 11 (Ap [] 24)))))) ∧ At w0 w h_4 ∧ screen_Screen_part_j1 R x0 x1 x2 x3 h_4) ?_ ?_
   ·refine wp_if rfl H (fun H => ?_) (fun H => ?_)
    ·refine lwpmx (Nat.testBit 1024) (Nat.testBit 0) (Nat.testBit 759) [0,1,3,7,0,16,0,0,128,384,1023] (Nat.testBit 0) (fun h' => h' = h_3) [0,1,2,3,4,5,6,7,8,9,10] HA_4 rfl fun w_11 HA_11 => lmal x0 31 rfl (almove) <| lmp 32 rfl (pnil H) fun x32 H => lmp 33 rfl (poff underlying64 rfl sizeOf54 rfl H) fun x33 H => lmf 34 rfl (of_eq (yld isAgg54 H)) fun x34 H => lmal x1 35 rfl (almove) <| lmp 36 rfl (psub H) fun x36 H => lmal x3 37 rfl (almove) <| lmp 38 rfl (poff underlying31 rfl sizeOf29 rfl H) fun x38 H => lmf 39 rfl (of_eq (yldn isAgg29 sizeOf29 H)) fun x39 H => lmp 40 rfl (plit (pl := [(0,1),(1,3)]) zeroValue31 underlying31 ⟨(by kernel_rfl),sizeOf21,(by kernel_rfl),sizeOf29,trivial⟩ H) fun x40 H => lmd 41 rfl HA_11 (dcall H) fun x41 h_9 w_12 H HA_12 => lm_nil ?_
     exact ⟨(gd ([x0,x32,x33,x34,x1,x36,x3,x38,x39,x40,x41])),h_9,by kernel_rfl,HA_12,H⟩
    ·refine wp_skip <| ⟨(gd (Ap [] 11)),h_3,by kernel_rfl,HA_4,H⟩
   ·rintro _ w_5 ⟨D_2,h_4,rfl,HA_5,H⟩
    unfold screen_Screen_part_j1 at H
    refine then_normal <| freq (mk ([x0,x1,x2,x3,ud,ud,ud,ud,x8,ud,x0,x11,x12,x13,x1,x15,x3,x17,x1,x19,x19,(D 0),(D 1),(D 2),x24,x24] ++ (Ad D_1 0 4 ([x30] ++ (Ad D_2 0 11 (Ap [] 24)))))) <| wp_seq (lwp_list ?_)
    refine lsmove x0 <| lsp 43 (pnil H) fun x43 H => lsp 44 (poff underlying64 rfl sizeOf54 rfl H) fun x44 H => lsy 45 HA_5 (yld isAgg54 H) fun x45 H => lsmove x1 <| lsmove x2 <| lsp 48 (padd H) fun x48 H => lsmove x3 <| lsd 50 HA_5 (dcall H) fun x50 h_5 w_6 H HA_6 => lsd 9 HA_6 (d_alloc zeroValue31 H) fun x9 h_6 w_7 H HA_7 => lsdn HA_7 (dstn sizeOf31 H) fun _ h_7 w_8 H HA_8 => ls_nil (then_normal ?_)
    refine freq (mk ([x0,x1,x2,x3,ud,ud,ud,ud,x8,x9,x0,x11,x12,x13,x1,x15,x3,x17,x1,x19,x19,(D 0),(D 1),(D 2),x24,x24] ++ (Ad D_1 0 4 ([x30] ++ (Ad D_2 0 11 (Ap [x0,x43,x44,x45,x1,x2,x48,x3,x50] 15)))))) <| wp_seq (lwp_list ?_)
    refine lsp 51 (poff underlying31 rfl sizeOf21 rfl H) fun x51 H => lsy 52 HA_8 (yld isAgg21 H) fun x52 H => lsp 53 (psEq H) fun x53 H => ls_nil (then_normal ?_)
    refine freq (mk ([x0,x1,x2,x3,ud,ud,ud,ud,x8,x9,x0,x11,x12,x13,x1,x15,x3,x17,x1,x19,x19,(D 0),(D 1),(D 2),x24,x24] ++ (Ad D_1 0 4 ([x30] ++ (Ad D_2 0 11 (Ap [x0,x43,x44,x45,x1,x2,x48,x3,x50,x51,x52,x53] 12)))))) <| wp_if rfl H (fun H => ?_) (fun H => ?_)
    ·refine lwpmx (Nat.testBit 2048) (Nat.testBit 0) (Nat.testBit 1527) [0,1,3,7,0,0,48,0,0,256,768,2047] (Nat.testBit 0) (fun h' => h' = h_7) [0,1,2,3,4,5,6,7,8,9,10,11] HA_8 rfl fun w_9 HA_9 => lmal x0 54 rfl (almove) <| lmp 55 rfl (pnil H) fun x55 H => lmp 56 rfl (poff underlying64 rfl sizeOf54 rfl H) fun x56 H => lmf 57 rfl (of_eq (yld isAgg54 H)) fun x57 H => lmal x1 58 rfl (almove) <| lmal x2 59 rfl (almove) <| lmp 60 rfl (padd H) fun x60 H => lmal x3 61 rfl (almove) <| lmp 62 rfl (poff underlying31 rfl sizeOf29 rfl H) fun x62 H => lmf 63 rfl (of_eq (yldn isAgg29 sizeOf29 H)) fun x63 H => lmp 64 rfl (plit (pl := [(0,1),(1,3)]) zeroValue31 underlying31 ⟨(by kernel_rfl),sizeOf21,(by kernel_rfl),sizeOf29,trivial⟩ H) fun x64 H => lmd 65 rfl HA_9 (dcall H) (fun x65 h_8 w_10 H HA_10 => ?_)
     refine lm_nil <| end0 (results34) (by kernel_rfl) HA_10 H _ (.inl rfl)
    ·refine wp_skip <| end0 (results34) (by kernel_rfl) HA_8 H _ (.inl rfl)

end Go.Proofs.YtmhhjpfkipficaaDoor


end

section
/- Screens: rows are mended. -/
set_option linter.unusedSimpArgs false
set_option linter.unusedVariables false
namespace Go.Proofs.YtmhhjpfkipficaaDoor
open Go Go.HW

def two (r : Int) : Bool := wt r == 2
theorem two_iff {r : Int} : two r = true ↔ wt r = 2 := by simp [two]
theorem wt_low {r : Int} (h : r < 32) : wt r = -1 := by unfold wt outR; rw [if_pos (by simp; omega)]
theorem two_pos {r : Int} : (decide (r > 0) && (wt r == 2)) = two r := by
  unfold two
  by_cases h : r > 0
  · simp [h]
  · have := wt_low (r := r) (by omega)
    simp [h, this]
def Ce.clr (c : Ce) : Ce := { c with r := 0 }
def wholeR (C : Cel) (w y : Int) : Prop := ∀ x, 0 ≤ x → x < w → (wt (C x y).r = 2 → x + 1 < w ∧ (C (x + 1) y).r = -1) ∧ ((C x y).r = -1 → 0 < x ∧ wt (C (x - 1) y).r = 2)
def wholeC (C : Cel) (w g : Int) : Prop := ∀ y, 0 ≤ y → y < g → wholeR C w y
structure MendTo (C D : Cel) (y i : Int) : Prop where
  other : ∀ a b, b ≠ y → D a b = C a b
  ahead : ∀ a, i ≤ a → D a y = C a y
  same : ∀ a, D a y = C a y ∨ D a y = (C a y).clr
  zero : ∀ a, (C a y).r = 0 → D a y = C a y
  whole : ∀ x, 0 ≤ x → x < i → (wt (D x y).r = 2 → x + 1 < i ∧ (D (x + 1) y).r = -1) ∧ ((D x y).r = -1 → 0 < x ∧ wt (D (x - 1) y).r = 2)
/-- What a mended row is. -/
structure Mended (C D : Cel) (w y : Int) : Prop where
  other : ∀ a b, b ≠ y → D a b = C a b
  same : ∀ a, D a y = C a y ∨ D a y = (C a y).clr
  zero : ∀ a, (C a y).r = 0 → D a y = C a y
  whole : wholeR D w y
theorem clr_eq {c : Ce} (h : c.r = 0) : c.clr = c := by unfold Ce.clr; cases c; simp only at h; subst h; rfl
theorem mend_pair {C D : Cel} {y i : Int} (m : MendTo C D y i) (h0 : 0 ≤ i) (h1 : wt (C i y).r = 2) (h2 : (C (i + 1) y).r = -1) : MendTo C D y (i + 2) := by
  refine ⟨m.other, fun a ha => m.ahead a (by omega), m.same, m.zero, fun x hx hx2 => ?_⟩
  have e1 := m.ahead i (by omega)
  have e2 := m.ahead (i + 1) (by omega)
  by_cases hl : x < i
  · have := m.whole x hx hl
    exact ⟨fun h => ⟨by have := (this.1 h).1; omega, (this.1 h).2⟩, this.2⟩
  · by_cases he : x = i
    · subst he
      rw [e1, e2]
      exact ⟨fun _ => ⟨by omega, h2⟩, fun h => by rw [h] at h1; rw [wt_low (by omega)] at h1; omega⟩
    · have : x = i + 1 := by omega
      subst this
      rw [e2, show i + 1 - 1 = i by omega, e1]
      exact ⟨fun h => by rw [h2, wt_low (by omega)] at h; omega, fun _ => ⟨by omega, h1⟩⟩
theorem mend_keep {C D : Cel} {y i : Int} (m : MendTo C D y i) (h0 : 0 ≤ i) (h1 : ¬ wt (C i y).r = 2) (h2 : ¬ (C i y).r = -1) : MendTo C D y (i + 1) := by
  refine ⟨m.other, fun a ha => m.ahead a (by omega), m.same, m.zero, fun x hx hx2 => ?_⟩
  have e1 := m.ahead i (by omega)
  by_cases hl : x < i
  · have := m.whole x hx hl
    exact ⟨fun h => ⟨by have := (this.1 h).1; omega, (this.1 h).2⟩, this.2⟩
  · have : x = i := by omega
    subst this
    rw [e1]
    exact ⟨fun h => (h1 h).elim, fun h => (h2 h).elim⟩
theorem mend_clear {C D : Cel} {w g y i : Int} (m : MendTo C D y i) (h0 : 0 ≤ i ∧ i < w) (hy : 0 ≤ y ∧ y < g) : MendTo C (setF D w g i y (C i y).clr) y (i + 1) := by
  have hin : inG w g i y = true := inG_iff.2 ⟨h0, hy⟩
  have ne : ∀ a b, ¬(a = i ∧ b = y) → setF D w g i y (C i y).clr a b = D a b := fun a b h => by unfold setF; rw [if_neg (fun x => h x.2)]
  have eq : setF D w g i y (C i y).clr i y = (C i y).clr := by unfold setF; rw [if_pos ⟨hin, rfl, rfl⟩]
  refine ⟨fun a b hb => by rw [ne _ _ (fun h => hb h.2)]; exact m.other a b hb, fun a ha => by rw [ne _ _ (by omega)]; exact m.ahead a (by omega), fun a => ?_, fun a ha => ?_, fun x hx hx2 => ?_⟩
  · by_cases h : a = i
    · subst h; rw [eq]; exact .inr rfl
    · rw [ne _ _ (fun x => h x.1)]; exact m.same a
  · by_cases h : a = i
    · subst h; rw [eq]; exact clr_eq ha
    · rw [ne _ _ (fun x => h x.1)]; exact m.zero a ha
  · by_cases hl : x < i
    · have t := m.whole x hx hl
      rw [ne _ _ (by omega), ne (x - 1) _ (by omega)]
      refine ⟨fun h => ?_, t.2⟩
      have t1 := (t.1 h).1
      rw [ne _ _ (by omega)]
      exact ⟨by omega, (t.1 h).2⟩
    · have : x = i := by omega
      subst this
      rw [eq]
      refine ⟨fun h => ?_, fun h => ?_⟩
      · rw [show (C x y).clr.r = 0 from rfl, wt_low (by omega)] at h; omega
      · rw [show (C x y).clr.r = 0 from rfl] at h; omega
theorem mend_start (C : Cel) (y : Int) : MendTo C C y 0 := ⟨fun _ _ _ => rfl, fun _ _ => rfl, fun _ => .inl rfl, fun _ _ => rfl, fun x hx h => by omega⟩
theorem mend_end {C D : Cel} {y w : Int} (m : MendTo C D y w) : Mended C D w y := ⟨m.other, m.same, m.zero, fun x hx hw => m.whole x hx hw⟩
/-- A part of an element is read. -/
theorem part {α : Type} {enc : α → List Value} {sz i n j : Nat} {h : Heap} {v : Value} {l : List α} {x : α} (ys rest : List Value) {K : Value → Prop} (q : Seq enc sz h v l) (hj : l[j]? = some x) (hp : (enc x).drop i = ys ++ rest) (hn : ys.length = n) : sOff (eltP v j sz) i (fun p => sLdN h p n K) = K (.agg ys.toArray) :=
  have hlt := (List.getElem?_eq_some_iff.1 hj).1
  by
  obtain ⟨a, m, c, rfl, hn', hm, h2 | ⟨b, o, rfl, hb, hc⟩⟩ := q
  · omega
  · show sOff (ptr b (o + j * sz)) i _ = _
    rw [ev_off]
    have hl : h.lay b (o + j * sz + i) ys := fun k u hu => by
      have := hc j x hj (i + k) u (by rw [← List.getElem?_drop, hp, List.getElem?_append_left (List.getElem?_eq_some_iff.1 hu).1]; exact hu)
      rwa [← Nat.add_assoc] at this
    rw [hl.ldn hn]
theorem rowL_get {C : Cel} {w y : Int} {i : Nat} (h : (i : Int) < w) : (rowL C w y)[i]? = some (C i y) := by
  unfold rowL
  rw [List.getElem?_map, List.getElem?_range (by omega)]; rfl

section
variable {h0 h : Heap} {F : List HP} {R : Value → Heap → Prop} {k kg : Nat} {m : Sc} {C D : Cel} {off : List (List Ce)} {b2 b3 b4 : Nat} {v : Value} {y : Int}
/-- What the closure sees. -/
abbrev Mn (k : Nat) (m : Sc) (D C : Cel) (off : List (List Ce)) (b2 b3 b4 : Nat) (v : Value) (y : Int) (F : List HP) : List HP := Blk b4 #[v] 32 :: Sl encCe 4 v (rowL C m.w y) :: Blk b3 #[.int .i64 y] 3 :: Blk b2 #[ptr k 0] 23 :: Scr k m D off :: F
theorem Scr_set {i y : Int} {c : Ce} (hi : i64 i) (hy : i64 y) (z : HW.Sep h0 (Scr k m C off :: F) h) {K : Value → Heap → Prop} {kg : Nat} (f0 : ∀ {K : Value → Prop}, sLd h (ptr k 0) K = K (ptr kg 0)) (H : ∀ h', HW.Sep h0 (Scr k m (setF C m.w m.g i y c) off :: F) h' → K (.bool (inG m.w m.g i y)) h') : grid_Grid_Set_c (ptr kg 0) (.int .i64 i) (.int .i64 y) (.agg c.a) h K := by
  obtain ⟨kg', ov, rs, e, es, so⟩ := Sopen z
  have f1 : ∀ {K : Value → Prop}, sLd h (ptr k 0) K = K (ptr kg' 0) := ldL so.has rfl
  have ek : kg' = kg := by
    have h1 : ∀ {K : Value → Prop}, K (ptr kg 0) = K (ptr kg' 0) := f0.symm.trans f1
    have h2 := (h1 (K := fun v => v = ptr kg 0)).symm
    have : ptr kg' 0 = ptr kg 0 := by
      have := h2.mpr rfl
      exact this
    cases this; rfl
  subst ek
  exact gset_spec hi hy so.b1 (fun h' s' => H h' (Sshut e es s'.b1))
theorem mend1_spec {i : Nat} (s : HW.Sep h0 (Mn k m D C off b2 b3 b4 v y F) h) (hi : (i : Int) < m.w) (hy : 0 ≤ y ∧ y < m.g) (H : ∀ h', HW.Sep h0 (Mn k m (setF D m.w m.g i y (C i y).clr) C off b2 b3 b4 v y F) h' → R unit h') : screen_Screen_mend_1_c (.int .i64 i) (ptr b2 0) (ptr b3 0) (ptr b4 0) h R := by
  apply screen_Screen_mend_1_runs
  unfold screen_Screen_mend_1_S
  have f2 : ∀ {K : Value → Prop}, sLd h (ptr b2 0) K = K (ptr k 0) := s.b3.ld rfl
  have f3 : ∀ {K : Value → Prop}, sLd h (ptr b3 0) K = K (.int .i64 y) := s.b2.ld rfl
  have f4 : ∀ {K : Value → Prop}, sLd h (ptr b4 0) K = K v := s.ld rfl
  have sg := Ssz s.b4
  obtain ⟨kg, f0, -⟩ := mg s.b4
  simp only [f2, f3, f4, ev_nil, ev_off, Nat.zero_add, f0]
  have q := s.b1.seq
  rw [q.elt (by rw [rowL_len]; omega)]
  rw [part (i := 1) (n := 3) [.int .i64 (C i y).f, .int .i64 (C i y).b, .int .i64 (C i y).g] [] q (rowL_get hi) rfl rfl]
  refine build_intro (cs := (C i y).clr.a) ⟨rfl, Nat.le_of_ble_eq_true rfl, rfl⟩ ?_
  refine Scr_set (by unfold i64; omega) (by unfold i64; omega) s.b4 f0 (fun h' s' => H h' ?_)
  exact s'.p4
theorem mend_spec (hG : G h0) (z : HW.Sep h0 (Scr k m C off :: F) h) (hy : 0 ≤ y ∧ y < m.g) (H : ∀ D h', Mended C D m.w y → HW.Sep h0 (Scr k m D off :: F) h' → R unit h') : screen_Screen_mend_c (ptr k 0) (.int .i64 y) h R := by
  apply screen_Screen_mend_runs
  unfold screen_Screen_mend_S
  have sz := Ssz z
  refine z.box (c := #[ptr k 0]) rfl (fun b2 h1 s1 => ?_)
  refine s1.box (c := #[.int .i64 y]) rfl (fun b3 h2 s2 => ?_)
  have hj : ∀ b4 v h', HW.Sep h0 (Mn k m C C off b2 b3 b4 v y F) h' → screen_Screen_mend_j1 R (ptr b2 0) (ptr b3 0) (ptr b4 0) h' := by
    intro b4 v h3 s3
    unfold screen_Screen_mend_j1
    refine ⟨fun t h' => ∃ (i : Nat) (D : Cel), (i : Int) ≤ m.w ∧ t = .int .i64 i ∧ MendTo C D y i ∧ HW.Sep h0 (Mn k m D C off b2 b3 b4 v y F) h', fun t _ => match t with | .int _ i => (m.w - i).toNat | _ => 0, ⟨0, C, by omega, rfl, mend_start C y, s3⟩, ?_⟩
    rintro _ h4 ⟨i, D, hi, rfl, mt, s4⟩
    simp only []
    unfold screen_Screen_mend_l2
    have f2 : ∀ {h' : Heap}, Ext h4 h' → ∀ {K : Value → Prop}, sLd h' (ptr b2 0) K = K (ptr k 0) := fun e => (s4.ext' e).b3.ld rfl
    have f4 : ∀ {h' : Heap}, Ext h4 h' → ∀ {K : Value → Prop}, sLd h' (ptr b4 0) K = K v := fun e => (s4.ext' e).ld rfl
    have r1 : ∀ {h' : Heap}, Ext h4 h' → ∀ {K : Value → Prop}, sLd h' (ptr k 1) K = K (.int .i64 m.w) := fun e => (rd (s4.ext' e).b4).r1
    have qq : ∀ {h' : Heap}, Ext h4 h' → Seq encCe 4 h' v (rowL C m.w y) := fun e => (s4.ext' e).b1.seq
    have e4 := Ext.refl h4
    rw [f2 e4, ev_nil, ev_off, Nat.zero_add, r1 e4, ev_lt, ev_if]
    by_cases hlt : (i : Int) < m.w
    · rw [if_pos (decide_eq_true hlt), f4 e4, (qq e4).elt (by rw [rowL_len]; omega), (qq e4).eltld (rowL_get hlt) rfl, ev_gt]
      refine and_ext (y := wt (C i y).r == 2) (fun _ K' HK => ?_) (fun h5 e5 => ?_)
      · rw [f4 e4, (qq e4).elt (by rw [rowL_len]; omega), (qq e4).eltld (rowL_get hlt) rfl]
        refine width_spec (hG.ext s4.ext) (fun h5 e5 => ?_)
        rw [ev_eq]
        exact HK h5 e5
      rw [two_pos]
      have s5 := s4.ext' e5
      have hj3 : ∀ (j : Nat) (D' : Cel) (h' : Heap), i ≤ j → (j : Int) + 1 ≤ m.w → MendTo C D' y (j + 1 : Nat) → HW.Sep h0 (Mn k m D' C off b2 b3 b4 v y F) h' → screen_Screen_mend_j3 (fun x6' h' => (∃ (i : Nat) (D : Cel), (i : Int) ≤ m.w ∧ x6' = .int .i64 i ∧ MendTo C D y i ∧ HW.Sep h0 (Mn k m D C off b2 b3 b4 v y F) h') ∧ (match x6' with | .int _ i => (m.w - i).toNat | _ => 0) < (m.w - i).toNat) (.int .i64 j) h' := by
        intro j D' h' hij hj mt' s'
        unfold screen_Screen_mend_j3
        rw [ev_add, wrap_i64 (by omega) (by omega)]
        exact ⟨⟨j + 1, D', by omega, by rw [Int.natCast_add]; rfl, mt', s'⟩, by simp only; omega⟩
      have hpair : two (C i y).r = true → (i : Int) + 1 < m.w → (C (i + 1) y).r = -1 → MendTo C D y ((i + 1 : Nat) + 1 : Nat) := fun h1 h2 h3 => by
        have := mend_pair mt (by omega) (two_iff.1 h1) h3
        rwa [show ((i : Int) + 2) = ((i + 1 + 1 : Nat) : Int) by omega] at this
      have hclear : MendTo C (setF D m.w m.g i y (C i y).clr) y (i + 1 : Nat) := by
        have := mend_clear mt ⟨by omega, hlt⟩ hy
        rwa [show ((i : Int) + 1) = ((i + 1 : Nat) : Int) by omega] at this
      have hrest : ¬(two (C i y).r = true ∧ (i : Int) + 1 < m.w ∧ (C (i + 1) y).r = -1) → (sOr (.bool (two (C i y).r)) (fun k =>
  sLd h5 (ptr b4 0) fun x63 =>
  sIxS x63 (.int .i64 i) 4 fun x65 =>
  sOff x65 0 fun x66 =>
  sLd h5 x66 fun x67 =>
  sEq x67 (.int .i32 (-1)) fun x68 =>
  k x68) fun x69 =>
  sIf x69 (screen_Screen_mend_1_c (.int .i64 i) (ptr b2 0) (ptr b3 0) (ptr b4 0) h5 fun x72 h_6 => 
  screen_Screen_mend_j3 (fun x6' h' => (∃ (i : Nat) (D : Cel), (i : Int) ≤ m.w ∧ x6' = .int .i64 i ∧ MendTo C D y i ∧ HW.Sep h0 (Mn k m D C off b2 b3 b4 v y F) h') ∧ (match x6' with | .int _ i => (m.w - i).toNat | _ => 0) < (m.w - i).toNat) (.int .i64 i) h_6) (screen_Screen_mend_j3 (fun x6' h' => (∃ (i : Nat) (D : Cel), (i : Int) ≤ m.w ∧ x6' = .int .i64 i ∧ MendTo C D y i ∧ HW.Sep h0 (Mn k m D C off b2 b3 b4 v y F) h') ∧ (match x6' with | .int _ i => (m.w - i).toNat | _ => 0) < (m.w - i).toNat) (.int .i64 i) h5)) := by
        intro hn
        have g1 : ∀ {K : Value → Prop}, sIxS v (.int .i64 i) 4 K = K (eltP v i 4) := (qq e5).elt (by rw [rowL_len]; omega) .i64
        have g2 : ∀ {K : Value → Prop}, sOff (eltP v i 4) 0 (fun p => sLd h5 p K) = K (.int .i32 (C i y).r) := (qq e5).eltld (rowL_get hlt) rfl
        simp only [f4 e5, g1, g2, ev_eq, ev_or_p, ev_if]
        split
        · exact mend1_spec s5 hlt hy (fun h6 s6 => hj3 i _ h6 (Nat.le_refl _) (by omega) hclear s6)
        · rename_i hc
          simp only [Bool.or_eq_true, beq_iff_eq, not_or] at hc
          have := mend_keep mt (by omega) (fun h => hc.1 (two_iff.2 h)) hc.2
          exact hj3 i _ h5 (Nat.le_refl _) (by omega) (by rwa [show ((i : Int) + 1) = ((i + 1 : Nat) : Int) by omega] at this) s5
      have e1 : ((i : Int) + 1) = ((i + 1 : Nat) : Int) := by omega
      cases ht : two (C i y).r with
      | false =>
        rw [ht] at hrest
        simp only [ev_and, Bool.false_eq_true, if_false, ev_if]
        exact hrest (by simp)
      | true =>
        rw [ht] at hrest hpair
        rw [ev_and, if_pos rfl]
        rw [ev_add, wrap_i64 (by omega) (by omega), f2 e5, ev_nil, ev_off, Nat.zero_add, r1 e5, ev_lt]
        by_cases hl2 : (i : Int) + 1 < m.w
        · rw [decide_eq_true hl2]
          simp only []
          rw [ev_and, if_pos rfl, f4 e5, ev_add, wrap_i64 (by omega) (by omega), e1, (qq e5).elt (by rw [rowL_len]; omega), (qq e5).eltld (rowL_get (by omega)) rfl, ev_eq]
          simp only []
          rw [ev_if]
          by_cases hr : (C (i + 1 : Nat) y).r = -1
          · rw [if_pos (by simpa using hr), ev_add, wrap_i64 (by omega) (by omega), e1]
            exact hj3 (i + 1) _ h5 (by omega) (by omega) (hpair rfl hl2 (by rw [e1]; exact hr)) s5
          · rw [if_neg (by simpa using hr)]
            exact hrest (fun h => hr (by rw [← e1]; exact h.2.2))
        · rw [decide_eq_false hl2]
          simp only []
          rw [ev_and, if_neg (by decide), ev_if, if_neg (by decide)]
          exact hrest (fun h => hl2 h.2.1)
    · rw [if_neg (by simpa using hlt)]
      have : (i : Int) = m.w := by omega
      rw [this] at mt
      exact H D h4 (mend_end mt) s4.tail.tail.tail.tail
  obtain ⟨kg, ov, rs, e, es, so⟩ := Sopen s2.b2
  have hC : (fun h' : Heap => h'.has b2 #[ptr k 0] 23 ∧ h'.has b3 #[.int .i64 y] 3 ∧ Hk k m kg ov h') h2 := ⟨s2.b1.has, s2.has, so.has⟩
  refine ⟨fun h' => h'.has b2 #[ptr k 0] 23 ∧ h'.has b3 #[.int .i64 y] 3 ∧ Hk k m kg ov h', hC, ?_⟩
  have c2 : ∀ {K : Value → Prop}, sLdC (fun h' : Heap => h'.has b2 #[ptr k 0] 23 ∧ h'.has b3 #[.int .i64 y] 3 ∧ Hk k m kg ov h') (ptr b2 0) K = K (ptr k 0) := ldc_at (h0 := h2) hC (fun h' e => by rw [e.1.at]; rfl)
  have c3 : ∀ {K : Value → Prop}, sLdC (fun h' : Heap => h'.has b2 #[ptr k 0] 23 ∧ h'.has b3 #[.int .i64 y] 3 ∧ Hk k m kg ov h') (ptr b3 0) K = K (.int .i64 y) := ldc_at (h0 := h2) hC (fun h' e => by rw [e.2.1.at]; rfl)
  have c0 : ∀ {K : Value → Prop}, sLdC (fun h' : Heap => h'.has b2 #[ptr k 0] 23 ∧ h'.has b3 #[.int .i64 y] 3 ∧ Hk k m kg ov h') (ptr k 0) K = K (ptr kg 0) := ldc_at (h0 := h2) hC (fun h' e => by have := e.2.2; unfold Hk at this; rw [this.at]; rfl)
  rw [c2, ev_nil, ev_off, Nat.zero_add, c0, c3]
  constructor
  · refine grow_spec so.b1 hy (fun v h3 s3 => ?_)
    have cv := s3.cell
    refine s3.new (fun b4 h4 s4 => ⟨⟨?_, ?_, ?_⟩, ?_⟩)
    · exact (selF (L := [_, _, _, _, _, _, _, _]) s4 [7, 0, 1, 2, 3, 4, 5, 6] rfl (by decide)).has
    · exact (selF (L := [_, _, _, _, _, _, _]) s4 [6, 0, 1, 2, 3, 4, 5] rfl (by decide)).has
    · exact s4.b3.has
    refine s4.st (Nat.le_of_ble_eq_true rfl) cv (fun h5 s5 => hj b4 v h5 ?_)
    have s6 := selF (L := [_, _, _, _, _, _, _, _]) s5 [3, 2, 4, 5, 0, 1, 6, 7] rfl (by decide)
    have s7 := Sshut e es s6
    exact selF (L := [_, _, _, _, _]) s7 [1, 2, 3, 4, 0] rfl (by decide)
  · refine so.new (fun b4 h3 s3 => ⟨⟨?_, ?_, ?_⟩, ?_⟩)
    · exact (selF (L := [_, _, _, _, _, _, _]) s3 [6, 0, 1, 2, 3, 4, 5] rfl (by decide)).has
    · exact (selF (L := [_, _, _, _, _, _]) s3 [5, 0, 1, 2, 3, 4] rfl (by decide)).has
    · exact s3.b1.has
    refine grow_spec s3.b2 hy (fun v h4 s4 => ?_)
    have cv := s4.cell
    refine s4.b2.st (Nat.le_of_ble_eq_true rfl) cv (fun h5 s5 => hj b4 v h5 ?_)
    have s6 := selF (L := [_, _, _, _, _, _, _, _]) s5 [3, 2, 4, 5, 0, 1, 6, 7] rfl (by decide)
    have s7 := Sshut e es s6
    exact selF (L := [_, _, _, _, _]) s7 [1, 2, 3, 4, 0] rfl (by decide)
end
end Go.Proofs.YtmhhjpfkipficaaDoor


end

section
/- The shallow reading of one function, and that the function does it. Written by a program. -/
set_option linter.unusedVariables false
namespace Go.Proofs.YtmhhjpfkipficaaDoor
open Go Go.HW _root_.Go.Proofs.Tryd

def screen_Screen_EraseLine_S (x0 x1 : Value) (h : Heap) (R : Value → Heap → Prop) : Prop :=
  screen_Screen_cur_c x0 h fun x6 h => 
  sEq x1 (.int .i64 0) fun x9 =>
  sIf x9 (sNil x6 fun x12 =>
  sOff x12 1 fun x13 =>
  sLd h x13 fun x14 =>
  sNil x6 fun x16 =>
  sOff x16 0 fun x17 =>
  sLd h x17 fun x18 =>
  sNil x0 fun x20 =>
  sOff x20 1 fun x21 =>
  sLd h x21 fun x22 =>
  screen_Screen_wipe_c x0 x14 x18 x22 h fun x23 h_1 => 
  R unit h_1) (sEq x1 (.int .i64 1) fun x25 =>
  sIf x25 (sNil x6 fun x28 =>
  sOff x28 1 fun x29 =>
  sLd h x29 fun x30 =>
  sNil x6 fun x32 =>
  sOff x32 0 fun x33 =>
  sLd h x33 fun x34 =>
  sAdd .i64 x34 (.int .i64 1) fun x35 =>
  screen_Screen_wipe_c x0 x30 (.int .i64 0) x35 h fun x36 h_2 => 
  R unit h_2) (sEq x1 (.int .i64 2) fun x38 =>
  sIf x38 (sNil x6 fun x41 =>
  sOff x41 1 fun x42 =>
  sLd h x42 fun x43 =>
  sNil x0 fun x45 =>
  sOff x45 1 fun x46 =>
  sLd h x46 fun x47 =>
  screen_Screen_wipe_c x0 x43 (.int .i64 0) x47 h fun x48 h_3 => 
  R unit h_3) (R unit h)))
set_option maxRecDepth 100000 in
theorem screen_Screen_EraseLine_runs {x0 x1 : Value} {h : Heap} {R : Value → Heap → Prop} (H : screen_Screen_EraseLine_S x0 x1 h R) : screen_Screen_EraseLine_c x0 x1 h R := by
 unfold screen_Screen_EraseLine_S at H
 refine runsof (b := ⟨#[x0,x1,ud,ud,ud,ud,ud,ud,ud,ud,ud,ud,ud,ud,ud,ud,ud,ud,ud,ud,ud,ud,ud,ud,ud,ud,ud,ud,ud,ud,ud,ud,ud,ud,ud,ud,ud,ud,ud,ud,ud,ud,ud,ud,ud,ud,ud,ud,ud], []⟩) call51 func51 rfl fun w0 HA => wp_seq (lwp_list ?_)
 refine lsmove x0 <| lsd 6 HA (dcall H) fun x6 h w H HA => lsassign x6 <| ls_nil (then_normal ?_)
 refine freq ⟨#[x0,x1,ud,ud,x6,x0,x6,ud,ud,ud,ud,ud,ud,ud,ud,ud,ud,ud,ud,ud,ud,ud,ud,ud,ud,ud,ud,ud,ud,ud,ud,ud,ud,ud,ud,ud,ud,ud,ud,ud,ud,ud,ud,ud,ud,ud,ud,ud,ud], []⟩ <| wp_seq (lwp_list ?_)
 refine lsmove x1 <| ls_nil (then_normal ?_)
 refine freq ⟨#[x0,x1,ud,ud,x6,x0,x6,x1,ud,ud,ud,ud,ud,ud,ud,ud,ud,ud,ud,ud,ud,ud,ud,ud,ud,ud,ud,ud,ud,ud,ud,ud,ud,ud,ud,ud,ud,ud,ud,ud,ud,ud,ud,ud,ud,ud,ud,ud,ud], []⟩ <| wp_block <| wp_seq (lwp_list ?_)
 refine lsp 9 (psEq H) fun x9 H => lsassign x9 <| ls_nil (then_normal ?_)
 refine freq ⟨#[x0,x1,ud,ud,x6,x0,x6,x1,x9,x9,ud,ud,ud,ud,ud,ud,ud,ud,ud,ud,ud,ud,ud,ud,ud,ud,ud,ud,ud,ud,ud,ud,ud,ud,ud,ud,ud,ud,ud,ud,ud,ud,ud,ud,ud,ud,ud,ud,ud], []⟩ <| wp_if rfl H (fun H => ?_) (fun H => ?_)
 ·refine lwpmx (Nat.testBit 8192) (Nat.testBit 0) (Nat.testBit 3823) [0,0,2,6,14,0,32,96,224,0,512,1536,3584,8191] (Nat.testBit 0) (fun h' => h' = h) [0,1,2,3,4,5,6,7,8,9,10,11,12,13] HA rfl fun w_1 HA_1 => lmal x0 10 rfl (almove) <| lmal x6 11 rfl (almove) <| lmp 12 rfl (pnil H) fun x12 H => lmp 13 rfl (poff underlying38 rfl sizeOf3 rfl H) fun x13 H => lmf 14 rfl (of_eq (yld isAgg3 H)) fun x14 H => lmal x6 15 rfl (almove) <| lmp 16 rfl (pnil H) fun x16 H => lmp 17 rfl (poff underlying38 rfl sizeOf3 rfl H) fun x17 H => lmf 18 rfl (of_eq (yld isAgg3 H)) fun x18 H => lmal x0 19 rfl (almove) <| lmp 20 rfl (pnil H) fun x20 H => lmp 21 rfl (poff underlying64 rfl sizeOf3 rfl H) (fun x21 H => ?_)
  refine lmf 22 rfl (of_eq (yld isAgg3 H)) fun x22 H => lmd 23 rfl HA_1 (dcall H) fun x23 h_1 w_2 H HA_2 => lm_nil <| block_normal <| end0 (results51) (by kernel_rfl) HA_2 H _ (.inl rfl)
 ·refine wp_seq (lwp_list ?_)
  refine lsp 25 (psEq H) fun x25 H => lsassign x25 <| ls_nil (then_normal ?_)
  refine freq ⟨#[x0,x1,ud,ud,x6,x0,x6,x1,x9,x9,ud,ud,ud,ud,ud,ud,ud,ud,ud,ud,ud,ud,ud,ud,x25,x25,ud,ud,ud,ud,ud,ud,ud,ud,ud,ud,ud,ud,ud,ud,ud,ud,ud,ud,ud,ud,ud,ud,ud], []⟩ <| wp_if rfl H (fun H => ?_) (fun H => ?_)
  ·refine lwpmx (Nat.testBit 1024) (Nat.testBit 0) (Nat.testBit 751) [0,0,2,6,14,0,32,96,224,480,1023] (Nat.testBit 0) (fun h' => h' = h) [0,1,2,3,4,5,6,7,8,9,10] HA rfl fun w_3 HA_3 => lmal x0 26 rfl (almove) <| lmal x6 27 rfl (almove) <| lmp 28 rfl (pnil H) fun x28 H => lmp 29 rfl (poff underlying38 rfl sizeOf3 rfl H) fun x29 H => lmf 30 rfl (of_eq (yld isAgg3 H)) fun x30 H => lmal x6 31 rfl (almove) <| lmp 32 rfl (pnil H) fun x32 H => lmp 33 rfl (poff underlying38 rfl sizeOf3 rfl H) fun x33 H => lmf 34 rfl (of_eq (yld isAgg3 H)) fun x34 H => lmp 35 rfl (padd H) fun x35 H => lmd 36 rfl HA_3 (dcall H) fun x36 h_2 w_4 H HA_4 => lm_nil ?_
   refine block_normal <| end0 (results51) (by kernel_rfl) HA_4 H _ (.inl rfl)
  ·refine wp_seq (lwp_list ?_)
   refine lsp 38 (psEq H) fun x38 H => lsassign x38 <| ls_nil (then_normal ?_)
   refine freq ⟨#[x0,x1,ud,ud,x6,x0,x6,x1,x9,x9,ud,ud,ud,ud,ud,ud,ud,ud,ud,ud,ud,ud,ud,ud,x25,x25,ud,ud,ud,ud,ud,ud,ud,ud,ud,ud,ud,x38,x38,ud,ud,ud,ud,ud,ud,ud,ud,ud,ud], []⟩ <| wp_if rfl H (fun H => ?_) (fun H => ?_)
   ·refine lwpmx (Nat.testBit 512) (Nat.testBit 0) (Nat.testBit 239) [0,0,2,6,14,0,32,96,224,511] (Nat.testBit 0) (fun h' => h' = h) [0,1,2,3,4,5,6,7,8,9] HA rfl fun w_5 HA_5 => lmal x0 39 rfl (almove) <| lmal x6 40 rfl (almove) <| lmp 41 rfl (pnil H) fun x41 H => lmp 42 rfl (poff underlying38 rfl sizeOf3 rfl H) fun x42 H => lmf 43 rfl (of_eq (yld isAgg3 H)) fun x43 H => lmal x0 44 rfl (almove) <| lmp 45 rfl (pnil H) fun x45 H => lmp 46 rfl (poff underlying64 rfl sizeOf3 rfl H) fun x46 H => lmf 47 rfl (of_eq (yld isAgg3 H)) fun x47 H => lmd 48 rfl HA_5 (dcall H) fun x48 h_3 w_6 H HA_6 => lm_nil <| block_normal ?_
    exact end0 (results51) (by kernel_rfl) HA_6 H _ (.inl rfl)
   ·refine wp_skip <| block_normal <| end0 (results51) (by kernel_rfl) HA H _ (.inl rfl)

end Go.Proofs.YtmhhjpfkipficaaDoor


end

section
/- The shallow reading of one function, and that the function does it. Written by a program. -/
set_option linter.unusedVariables false
namespace Go.Proofs.YtmhhjpfkipficaaDoor
open Go Go.HW _root_.Go.Proofs.Tryd

def screen_Screen_Erase_j2 (R : Value → Heap → Prop) (x0 x1 : Value) (h_2 : Heap) : Prop :=
  screen_Screen_EraseLine_c x0 x1 h_2 fun x56 h_3 => 
  R unit h_3
def screen_Screen_Erase_j1 (R : Value → Heap → Prop) (x0 x1 x15 : Value) (h_1 : Heap) : Prop :=
  sNe x1 (.int .i64 1) fun x32 =>
  sIf x32 (∃ C : Heap → Prop, C h_1 ∧ (sNil x0 fun x34 =>
  sOff x34 0 fun x35 =>
  sLdC C x35 fun x36 =>
  sAdd .i64 x15 (.int .i64 1) fun x38 =>
  sNil x0 fun x40 =>
  sOff x40 1 fun x41 =>
  sLdC C x41 fun x42 =>
  sNil x0 fun x44 =>
  sOff x44 2 fun x45 =>
  sLdC C x45 fun x46 =>
  sSub .i64 x46 x15 fun x48 =>
  sSub .i64 x48 (.int .i64 1) fun x49 =>
  sBuild #[.int .i64 0, .int .i64 0, .int .i64 0, .int .i64 0] [(1, 1, x38), (2, 1, x42), (3, 1, x49)] fun x50 =>
  screen_Screen_blank_c x0 h_1 fun x52 h_4 => C h_4 ∧ (
  grid_Grid_Fill_c x36 x50 x52 h_4 fun x53 h_5 => 
  screen_Screen_Erase_j2 R x0 x1 h_5))) (screen_Screen_Erase_j2 R x0 x1 h_1)
def screen_Screen_Erase_S (x0 x1 : Value) (h : Heap) (R : Value → Heap → Prop) : Prop :=
  sLt x1 (.int .i64 0) fun x6 =>
  sOr x6 (fun k =>
  sGt x1 (.int .i64 2) fun x9 =>
  k x9) fun x10 =>
  sIf x10 (R unit h) (screen_Screen_cur_c x0 h fun x12 h => 
  sNil x12 fun x13 =>
  sOff x13 1 fun x14 =>
  sLd h x14 fun x15 =>
  sNe x1 (.int .i64 0) fun x17 =>
  sIf x17 (∃ C_1 : Heap → Prop, C_1 h ∧ (sNil x0 fun x19 =>
  sOff x19 0 fun x20 =>
  sLdC C_1 x20 fun x21 =>
  sNil x0 fun x23 =>
  sOff x23 1 fun x24 =>
  sLdC C_1 x24 fun x25 =>
  sBuild #[.int .i64 0, .int .i64 0, .int .i64 0, .int .i64 0] [(2, 1, x25), (3, 1, x15)] fun x27 =>
  screen_Screen_blank_c x0 h fun x29 h_6 => C_1 h_6 ∧ (
  grid_Grid_Fill_c x21 x27 x29 h_6 fun x30 h_7 => 
  screen_Screen_Erase_j1 R x0 x1 x15 h_7))) (screen_Screen_Erase_j1 R x0 x1 x15 h))
set_option maxRecDepth 100000 in
theorem screen_Screen_Erase_runs {x0 x1 : Value} {h : Heap} {R : Value → Heap → Prop} (H : screen_Screen_Erase_S x0 x1 h R) : screen_Screen_Erase_c x0 x1 h R := by
 unfold screen_Screen_Erase_S at H
 refine runsof (b := ⟨#[x0,x1,ud,ud,ud,ud,ud,ud,ud,ud,ud,ud,ud,ud,ud,ud,ud,ud,ud,ud,ud,ud,ud,ud,ud,ud,ud,ud,ud,ud,ud,ud,ud,ud,ud,ud,ud,ud,ud,ud,ud,ud,ud,ud,ud,ud,ud,ud,ud,ud,ud,ud,ud,ud,ud,ud,ud], []⟩) call24 func24 rfl fun w0 HA => wp_seq <| wp_seq (lwp_list ?_)
 refine lsmove x1 <| lsp 6 (psLt H) fun x6 H => lsmove x6 <| ls_or [(),(),()] (fun K a w => ∃ (D : Nat → Value) (x10 : Value),a = ⟨#[x0,x1,ud,ud,ud,x1,x6,x6,(D 0),(D 1),x10,ud,ud,ud,ud,ud,ud,ud,ud,ud,ud,ud,ud,ud,ud,ud,ud,ud,ud,ud,ud,ud,ud,ud,ud,ud,ud,ud,ud,ud,ud,ud,ud,ud,ud,ud,ud,ud,ud,ud,ud,ud,ud,ud,ud,ud,ud], []⟩ ∧ At w0 w h ∧ K x10) H (fun hb H => ?_) (fun hb H => ?_) ?_
 ·refine lsmove (hg := by rw [hb]; kernel_rfl) x1 <| lsp (hg := by rw [hb]; kernel_rfl) 9 (psGt H) fun x9 H => lspickf x9 (by rw [hb]; kernel_rfl) <| ls_nil (then_normal ?_)
  exact ⟨(gd ([x1,x9])),x9,by kernel_rfl,HA,H⟩
 ·refine lsskip (hg := by rw [hb]; kernel_rfl) 8 <| lsskip (hg := by rw [hb]; kernel_rfl) 9 <| lspickt (.bool true) (by rw [hb]; kernel_rfl) <| ls_nil (then_normal ?_)
  exact ⟨(gd ([ud,ud])),(.bool true),by kernel_rfl,HA,H⟩
 ·rintro _ w ⟨D,x10,rfl,HA,H⟩
  refine ls_nil (then_normal ?_)
  refine freq ⟨#[x0,x1,ud,ud,ud,x1,x6,x6,(D 0),(D 1),x10,ud,ud,ud,ud,ud,ud,ud,ud,ud,ud,ud,ud,ud,ud,ud,ud,ud,ud,ud,ud,ud,ud,ud,ud,ud,ud,ud,ud,ud,ud,ud,ud,ud,ud,ud,ud,ud,ud,ud,ud,ud,ud,ud,ud,ud,ud], []⟩ <| wp_if rfl H (fun H => ?_) (fun H => ?_)
  ·refine wp_ret <| then_ret <| end0 (results24) (by kernel_rfl) HA H _ (.inr rfl)
  ·refine wp_skip <| then_normal <| freq ⟨#[x0,x1,ud,ud,ud,x1,x6,x6,(D 0),(D 1),x10,ud,ud,ud,ud,ud,ud,ud,ud,ud,ud,ud,ud,ud,ud,ud,ud,ud,ud,ud,ud,ud,ud,ud,ud,ud,ud,ud,ud,ud,ud,ud,ud,ud,ud,ud,ud,ud,ud,ud,ud,ud,ud,ud,ud,ud,ud], []⟩ <| wp_seq (lwp_list ?_)
   refine lsmove x0 <| lsd 12 HA (dcall H) fun x12 h w_1 H HA_1 => lsp 13 (pnil H) fun x13 H => lsp 14 (poff underlying38 rfl sizeOf3 rfl H) fun x14 H => lsy 15 HA_1 (yld isAgg3 H) fun x15 H => lsassign x15 <| ls_nil (then_normal ?_)
   refine freq ⟨#[x0,x1,ud,ud,x15,x1,x6,x6,(D 0),(D 1),x10,x0,x12,x13,x14,x15,ud,ud,ud,ud,ud,ud,ud,ud,ud,ud,ud,ud,ud,ud,ud,ud,ud,ud,ud,ud,ud,ud,ud,ud,ud,ud,ud,ud,ud,ud,ud,ud,ud,ud,ud,ud,ud,ud,ud,ud,ud], []⟩ <| wp_seq <| wp_seq (lwp_list ?_)
   refine lsmove x1 <| lsp 17 (psNe H) fun x17 H => ls_nil (then_normal ?_)
   refine freq ⟨#[x0,x1,ud,ud,x15,x1,x6,x6,(D 0),(D 1),x10,x0,x12,x13,x14,x15,x1,x17,ud,ud,ud,ud,ud,ud,ud,ud,ud,ud,ud,ud,ud,ud,ud,ud,ud,ud,ud,ud,ud,ud,ud,ud,ud,ud,ud,ud,ud,ud,ud,ud,ud,ud,ud,ud,ud,ud,ud], []⟩ <| wp_join (fun a w => ∃ (D_1 : Nat → Value) (h_1 : Heap),a = ⟨#[x0,x1,ud,ud,x15,x1,x6,x6,(D 0),(D 1),x10,x0,x12,x13,x14,x15,x1,x17,(D_1 0),(D_1 1),(D_1 2),(D_1 3),(D_1 4),(D_1 5),(D_1 6),(D_1 7),(D_1 8),(D_1 9),(D_1 10),(D_1 11),(D_1 12),ud,ud,ud,ud,ud,ud,ud,ud,ud,ud,ud,ud,ud,ud,ud,ud,ud,ud,ud,ud,ud,ud,ud,ud,ud,ud], []⟩ ∧ At w0 w h_1 ∧ screen_Screen_Erase_j1 R x0 x1 x15 h_1) ?_ ?_
   ·refine wp_if rfl H (fun H => ?_) (fun H => ?_)
    ·obtain ⟨C_1,HC,H⟩ := H
     refine lwpmx (Nat.testBit 6144) (Nat.testBit 2048) (Nat.testBit 1911) [0,1,3,7,0,16,48,112,0,496,0,1024,4095] (Nat.testBit 0) C_1 [0,1,2,3,4,5,6,7,8,9,10,11,12] HA_1 HC fun w_8 HA_8 => lmal x0 18 rfl (almove) <| lmp 19 rfl (pnil H) fun x19 H => lmp 20 rfl (poff underlying64 rfl sizeOf54 rfl H) fun x20 H => lmf 21 rfl (cld isAgg54 H) fun x21 H => lmal x0 22 rfl (almove) <| lmp 23 rfl (pnil H) fun x23 H => lmp 24 rfl (poff underlying64 rfl sizeOf3 rfl H) fun x24 H => lmf 25 rfl (cld isAgg3 H) fun x25 H => lmal x15 26 rfl (almove) <| lmp 27 rfl (plit (pl := [(0,1),(1,1),(2,1),(3,1)]) zeroValue83 underlying83 ⟨(by kernel_rfl),sizeOf3,(by kernel_rfl),sizeOf3,(by kernel_rfl),sizeOf3,(by kernel_rfl),sizeOf3,trivial⟩ H) fun x27 H => lmal x0 28 rfl (almove) <| lmdc 29 rfl HA_8 (dcall H) (fun x29 h_6 w_9 H HA_9 => ?_)
     refine lmd 30 rfl HA_9 (dcall H) fun x30 h_7 w_10 H HA_10 => lm_nil <| ⟨(gd ([x0,x19,x20,x21,x0,x23,x24,x25,x15,x27,x0,x29,x30])),h_7,by kernel_rfl,HA_10,H⟩
    ·refine wp_skip <| ⟨(gd (Ap [] 13)),h,by kernel_rfl,HA_1,H⟩
   ·rintro _ w_2 ⟨D_1,h_1,rfl,HA_2,H⟩
    unfold screen_Screen_Erase_j1 at H
    refine then_normal <| freq ⟨#[x0,x1,ud,ud,x15,x1,x6,x6,(D 0),(D 1),x10,x0,x12,x13,x14,x15,x1,x17,(D_1 0),(D_1 1),(D_1 2),(D_1 3),(D_1 4),(D_1 5),(D_1 6),(D_1 7),(D_1 8),(D_1 9),(D_1 10),(D_1 11),(D_1 12),ud,ud,ud,ud,ud,ud,ud,ud,ud,ud,ud,ud,ud,ud,ud,ud,ud,ud,ud,ud,ud,ud,ud,ud,ud,ud], []⟩ <| wp_seq <| wp_seq (lwp_list ?_)
    refine lsmove x1 <| lsp 32 (psNe H) fun x32 H => ls_nil (then_normal ?_)
    refine freq ⟨#[x0,x1,ud,ud,x15,x1,x6,x6,(D 0),(D 1),x10,x0,x12,x13,x14,x15,x1,x17,(D_1 0),(D_1 1),(D_1 2),(D_1 3),(D_1 4),(D_1 5),(D_1 6),(D_1 7),(D_1 8),(D_1 9),(D_1 10),(D_1 11),(D_1 12),x1,x32,ud,ud,ud,ud,ud,ud,ud,ud,ud,ud,ud,ud,ud,ud,ud,ud,ud,ud,ud,ud,ud,ud,ud,ud], []⟩ <| wp_join (fun a w => ∃ (D_2 : Nat → Value) (h_2 : Heap),a = ⟨#[x0,x1,ud,ud,x15,x1,x6,x6,(D 0),(D 1),x10,x0,x12,x13,x14,x15,x1,x17,(D_1 0),(D_1 1),(D_1 2),(D_1 3),(D_1 4),(D_1 5),(D_1 6),(D_1 7),(D_1 8),(D_1 9),(D_1 10),(D_1 11),(D_1 12),x1,x32,(D_2 0),(D_2 1),(D_2 2),(D_2 3),(D_2 4),(D_2 5),(D_2 6),(D_2 7),(D_2 8),(D_2 9),(D_2 10),(D_2 11),(D_2 12),(D_2 13),(D_2 14),(D_2 15),(D_2 16),(D_2 17),(D_2 18),(D_2 19),(D_2 20),ud,ud,ud], []⟩ ∧ At w0 w h_2 ∧ screen_Screen_Erase_j2 R x0 x1 h_2) ?_ ?_
    ·refine wp_if rfl H (fun H => ?_) (fun H => ?_)
     ·obtain ⟨C,HC,H⟩ := H
      refine lwpmx (Nat.testBit 1572864) (Nat.testBit 524288) (Nat.testBit 515575) [0,1,3,7,0,16,0,64,192,448,0,1024,3072,7168,0,31744,64512,131056,0,262144,1048575] (Nat.testBit 0) C [0,1,2,3,4,5,6,7,8,9,10,11,12,13,14,15,16,17,18,19,20] HA_2 HC fun w_5 HA_5 => lmal x0 33 rfl (almove) <| lmp 34 rfl (pnil H) fun x34 H => lmp 35 rfl (poff underlying64 rfl sizeOf54 rfl H) fun x35 H => lmf 36 rfl (cld isAgg54 H) fun x36 H => lmal x15 37 rfl (almove) <| lmp 38 rfl (padd H) fun x38 H => lmal x0 39 rfl (almove) <| lmp 40 rfl (pnil H) fun x40 H => lmp 41 rfl (poff underlying64 rfl sizeOf3 rfl H) fun x41 H => lmf 42 rfl (cld isAgg3 H) fun x42 H => lmal x0 43 rfl (almove) <| lmp 44 rfl (pnil H) (fun x44 H => ?_)
      refine lmp 45 rfl (poff underlying64 rfl sizeOf3 rfl H) fun x45 H => lmf 46 rfl (cld isAgg3 H) fun x46 H => lmal x15 47 rfl (almove) <| lmp 48 rfl (psub H) fun x48 H => lmp 49 rfl (psub H) fun x49 H => lmp 50 rfl (plit (pl := [(0,1),(1,1),(2,1),(3,1)]) zeroValue83 underlying83 ⟨(by kernel_rfl),sizeOf3,(by kernel_rfl),sizeOf3,(by kernel_rfl),sizeOf3,(by kernel_rfl),sizeOf3,trivial⟩ H) fun x50 H => lmal x0 51 rfl (almove) <| lmdc 52 rfl HA_5 (dcall H) fun x52 h_4 w_6 H HA_6 => lmd 53 rfl HA_6 (dcall H) fun x53 h_5 w_7 H HA_7 => lm_nil <| ⟨(gd ([x0,x34,x35,x36,x15,x38,x0,x40,x41,x42,x0,x44,x45,x46,x15,x48,x49,x50,x0,x52,x53])),h_5,by kernel_rfl,HA_7,H⟩
     ·refine wp_skip <| ⟨(gd (Ap [] 21)),h_1,by kernel_rfl,HA_2,H⟩
    ·rintro _ w_3 ⟨D_2,h_2,rfl,HA_3,H⟩
     unfold screen_Screen_Erase_j2 at H
     refine then_normal <| freq ⟨#[x0,x1,ud,ud,x15,x1,x6,x6,(D 0),(D 1),x10,x0,x12,x13,x14,x15,x1,x17,(D_1 0),(D_1 1),(D_1 2),(D_1 3),(D_1 4),(D_1 5),(D_1 6),(D_1 7),(D_1 8),(D_1 9),(D_1 10),(D_1 11),(D_1 12),x1,x32,(D_2 0),(D_2 1),(D_2 2),(D_2 3),(D_2 4),(D_2 5),(D_2 6),(D_2 7),(D_2 8),(D_2 9),(D_2 10),(D_2 11),(D_2 12),(D_2 13),(D_2 14),(D_2 15),(D_2 16),(D_2 17),(D_2 18),(D_2 19),(D_2 20),ud,ud,ud], []⟩ <| lwp_list <| lsmove x0 <| lsmove x1 <| lsd 56 HA_3 (dcall H) fun x56 h_3 w_4 H HA_4 => ls_nil <| end0 (results24) (by kernel_rfl) HA_4 H _ (.inl rfl)

end Go.Proofs.YtmhhjpfkipficaaDoor


end

section
/- The shallow reading of one function, and that the function does it. Written by a program. -/
set_option linter.unusedVariables false
namespace Go.Proofs.YtmhhjpfkipficaaDoor
open Go Go.HW _root_.Go.Proofs.Tryd

def screen_Screen_Cells_S (x0 x1 x2 : Value) (h : Heap) (R : Value → Heap → Prop) : Prop :=
  screen_Screen_cur_c x0 h fun x10 h => 
  sNil x10 fun x12 =>
  sOff x12 2 fun x13 =>
  sSt h x13 (.bool false) fun h_1 => 
  sNil x0 fun x16 =>
  sOff x16 1 fun x17 =>
  sLd h_1 x17 fun x18 =>
  sNil x10 fun x20 =>
  sOff x20 0 fun x21 =>
  sLd h_1 x21 fun x22 =>
  sSub .i64 x18 x22 fun x23 =>
  sMin x1 x23 fun x24 =>
  sLt x24 (.int .i64 1) fun x26 =>
  sIf x26 (R unit h_1) (sNil x0 fun x28 =>
  sOff x28 1 fun x29 =>
  sLd h_1 x29 fun x30 =>
  sNil x10 fun x32 =>
  sOff x32 0 fun x33 =>
  sLd h_1 x33 fun x34 =>
  sSub .i64 x30 x34 fun x35 =>
  sSub .i64 x35 x24 fun x37 =>
  sNil x10 fun x39 =>
  sOff x39 0 fun x40 =>
  sLd h_1 x40 fun x41 =>
  sAdd .i64 x41 x24 fun x43 =>
  sIf x2 (sNil x0 fun x46 =>
  sOff x46 0 fun x47 =>
  sLd h_1 x47 fun x48 =>
  sNil x10 fun x50 =>
  sOff x50 0 fun x51 =>
  sLd h_1 x51 fun x52 =>
  sNil x10 fun x54 =>
  sOff x54 1 fun x55 =>
  sLd h_1 x55 fun x56 =>
  sBuild #[.int .i64 0, .int .i64 0, .int .i64 0, .int .i64 0] [(0, 1, x52), (1, 1, x56), (2, 1, x37), (3, 1, (.int .i64 1))] fun x58 =>
  sNil x10 fun x61 =>
  sOff x61 1 fun x62 =>
  sLd h_1 x62 fun x63 =>
  grid_Grid_Copy_c x48 x58 x43 x63 h_1 fun x64 h_2 => 
  sNil x10 fun x67 =>
  sOff x67 1 fun x68 =>
  sLd h_2 x68 fun x69 =>
  sNil x10 fun x71 =>
  sOff x71 0 fun x72 =>
  sLd h_2 x72 fun x73 =>
  screen_Screen_wipe_c x0 x69 x73 x43 h_2 fun x75 h_3 => 
  R unit h_3) (sNil x0 fun x77 =>
  sOff x77 0 fun x78 =>
  sLd h_1 x78 fun x79 =>
  sNil x10 fun x82 =>
  sOff x82 1 fun x83 =>
  sLd h_1 x83 fun x84 =>
  sBuild #[.int .i64 0, .int .i64 0, .int .i64 0, .int .i64 0] [(0, 1, x43), (1, 1, x84), (2, 1, x37), (3, 1, (.int .i64 1))] fun x86 =>
  sNil x10 fun x88 =>
  sOff x88 0 fun x89 =>
  sLd h_1 x89 fun x90 =>
  sNil x10 fun x92 =>
  sOff x92 1 fun x93 =>
  sLd h_1 x93 fun x94 =>
  grid_Grid_Copy_c x79 x86 x90 x94 h_1 fun x95 h_4 => 
  sNil x10 fun x98 =>
  sOff x98 1 fun x99 =>
  sLd h_4 x99 fun x100 =>
  sNil x0 fun x102 =>
  sOff x102 1 fun x103 =>
  sLd h_4 x103 fun x104 =>
  sSub .i64 x104 x24 fun x106 =>
  sNil x0 fun x108 =>
  sOff x108 1 fun x109 =>
  sLd h_4 x109 fun x110 =>
  screen_Screen_wipe_c x0 x100 x106 x110 h_4 fun x111 h_5 => 
  R unit h_5))
set_option maxRecDepth 100000 in
theorem screen_Screen_Cells_runs {x0 x1 x2 : Value} {h : Heap} {R : Value → Heap → Prop} (H : screen_Screen_Cells_S x0 x1 x2 h R) : screen_Screen_Cells_c x0 x1 x2 h R := by
 unfold screen_Screen_Cells_S at H
 refine runsof (b := (mk (Ap [x0,x1,x2] 109))) call32 func32 rfl fun w0 HA => wp_seq (lwp_list ?_)
 refine lsmove x0 <| lsd 10 HA (dcall H) fun x10 h w H HA => lsassign x10 <| ls_nil (then_normal ?_)
 refine freq (mk (Ap [x0,x1,x2,ud,ud,ud,x10,ud,ud,x0,x10] 101)) <| wp_seq (lwp_list ?_)
 refine lsmove x10 <| lsp 12 (pnil H) fun x12 H => lsp 13 (poff underlying38 rfl sizeOf4 rfl H) fun x13 H => lsdn HA (dstw sizeOf4 H) fun _ h_1 w_1 H HA_1 => ls_nil (then_normal ?_)
 refine freq (mk (Ap [x0,x1,x2,ud,ud,ud,x10,ud,ud,x0,x10,x10,x12,x13] 98)) <| wp_seq <| lwpqt HA_1 <| lqmove x1 <| lqmove x0 <| lqp 16 (pnil H) fun x16 H => lqp 17 (poff underlying64 rfl sizeOf3 rfl H) fun x17 H => lqy 18 HA_1 (yld isAgg3 H) fun x18 H => lqmove x10 <| lqp 20 (pnil H) fun x20 H => lqp 21 (poff underlying38 rfl sizeOf3 rfl H) fun x21 H => lqy 22 HA_1 (yld isAgg3 H) fun x22 H => lqp 23 (psub H) fun x23 H => lqp 24 (pmin H) (fun x24 H => ?_)
 refine lqassign x24 <| lq_nil fun w_2 HA_2 => then_normal <| freq (mk (Ap [x0,x24,x2,ud,ud,ud,x10,ud,ud,x0,x10,x10,x12,x13,x1,x0,x16,x17,x18,x10,x20,x21,x22,x23,x24] 87)) <| wp_seq <| wp_seq (lwp_list ?_)
 refine lsmove x24 <| lsp 26 (psLt H) fun x26 H => ls_nil (then_normal ?_)
 refine freq (mk (Ap [x0,x24,x2,ud,ud,ud,x10,ud,ud,x0,x10,x10,x12,x13,x1,x0,x16,x17,x18,x10,x20,x21,x22,x23,x24,x24,x26] 85)) <| wp_if rfl H (fun H => ?_) (fun H => ?_)
 ·refine wp_ret <| then_ret <| end0 (results32) (by kernel_rfl) HA_2 H _ (.inr rfl)
 ·refine wp_skip <| then_normal <| freq (mk (Ap [x0,x24,x2,ud,ud,ud,x10,ud,ud,x0,x10,x10,x12,x13,x1,x0,x16,x17,x18,x10,x20,x21,x22,x23,x24,x24,x26] 85)) <| wp_seq <| lwpqt HA_2 <| lqmove x0 <| lqp 28 (pnil H) fun x28 H => lqp 29 (poff underlying64 rfl sizeOf3 rfl H) fun x29 H => lqy 30 HA_2 (yld isAgg3 H) fun x30 H => lqmove x10 <| lqp 32 (pnil H) fun x32 H => lqp 33 (poff underlying38 rfl sizeOf3 rfl H) fun x33 H => lqy 34 HA_2 (yld isAgg3 H) fun x34 H => lqp 35 (psub H) (fun x35 H => ?_)
  refine lqmove x24 <| lqp 37 (psub H) fun x37 H => lqmove x10 <| lqp 39 (pnil H) fun x39 H => lqp 40 (poff underlying38 rfl sizeOf3 rfl H) fun x40 H => lqy 41 HA_2 (yld isAgg3 H) fun x41 H => lqmove x24 <| lqp 43 (padd H) fun x43 H => lqassign x37 <| lqassign x43 <| lq_nil fun w_3 HA_3 => then_normal <| freq (mk (Ap [x0,x24,x2,ud,ud,ud,x10,x37,x43,x0,x10,x10,x12,x13,x1,x0,x16,x17,x18,x10,x20,x21,x22,x23,x24,x24,x26,x0,x28,x29,x30,x10,x32,x33,x34,x35,x24,x37,x10,x39,x40,x41,x24,x43] 68)) ?_
  refine wp_seq <| wp_seq (lwp_list ?_)
  refine lsmove x2 <| ls_nil (then_normal ?_)
  refine freq (mk (Ap [x0,x24,x2,ud,ud,ud,x10,x37,x43,x0,x10,x10,x12,x13,x1,x0,x16,x17,x18,x10,x20,x21,x22,x23,x24,x24,x26,x0,x28,x29,x30,x10,x32,x33,x34,x35,x24,x37,x10,x39,x40,x41,x24,x43,x2] 67)) <| wp_if rfl H (fun H => ?_) (fun H => ?_)
  ·refine wp_seq <| lwpmx (Nat.testBit 524288) (Nat.testBit 0) (Nat.testBit 259959) [0,1,3,7,0,16,48,112,0,256,768,1792,0,8176,0,0,32768,98304,229376,524287] (Nat.testBit 0) (fun h' => h' = h_1) [0,1,2,3,4,5,6,7,8,9,10,11,12,13,14,15,16,17,18,19] HA_3 rfl fun w_4 HA_4 => lmal x0 45 rfl (almove) <| lmp 46 rfl (pnil H) fun x46 H => lmp 47 rfl (poff underlying64 rfl sizeOf54 rfl H) fun x47 H => lmf 48 rfl (of_eq (yld isAgg54 H)) fun x48 H => lmal x10 49 rfl (almove) <| lmp 50 rfl (pnil H) fun x50 H => lmp 51 rfl (poff underlying38 rfl sizeOf3 rfl H) fun x51 H => lmf 52 rfl (of_eq (yld isAgg3 H)) fun x52 H => lmal x10 53 rfl (almove) <| lmp 54 rfl (pnil H) fun x54 H => lmp 55 rfl (poff underlying38 rfl sizeOf3 rfl H) (fun x55 H => ?_)
   refine lmf 56 rfl (of_eq (yld isAgg3 H)) fun x56 H => lmal x37 57 rfl (almove) <| lmp 58 rfl (plit (pl := [(0,1),(1,1),(2,1),(3,1)]) zeroValue83 underlying83 ⟨(by kernel_rfl),sizeOf3,(by kernel_rfl),sizeOf3,(by kernel_rfl),sizeOf3,(by kernel_rfl),sizeOf3,trivial⟩ H) fun x58 H => lmal x43 59 rfl (almove) <| lmal x10 60 rfl (almove) <| lmp 61 rfl (pnil H) fun x61 H => lmp 62 rfl (poff underlying38 rfl sizeOf3 rfl H) fun x62 H => lmf 63 rfl (of_eq (yld isAgg3 H)) fun x63 H => lmd 64 rfl HA_4 (dcall H) fun x64 h_2 w_5 H HA_5 => lm_nil <| then_normal <| freq (mk (Ap ([x0,x24,x2,ud,ud,ud,x10,x37,x43,x0,x10,x10,x12,x13,x1,x0,x16,x17,x18,x10,x20,x21,x22,x23,x24,x24,x26,x0,x28,x29,x30,x10,x32,x33,x34,x35,x24,x37,x10,x39,x40,x41,x24,x43,x2,x0,x46,x47] ++ [x48,x10,x50,x51,x52,x10,x54,x55,x56,x37,x58,x43,x10,x61,x62,x63,x64]) 47)) <| wp_seq <| lwpmx (Nat.testBit 1024) (Nat.testBit 0) (Nat.testBit 751) [0,0,2,6,14,0,32,96,224,0,1023] (Nat.testBit 0) (fun h' => h' = h_2) [0,1,2,3,4,5,6,7,8,9,10] HA_5 rfl ?_
   intro w_6 HA_6
   refine lmal x0 65 rfl (almove) <| lmal x10 66 rfl (almove) <| lmp 67 rfl (pnil H) fun x67 H => lmp 68 rfl (poff underlying38 rfl sizeOf3 rfl H) fun x68 H => lmf 69 rfl (of_eq (yld isAgg3 H)) fun x69 H => lmal x10 70 rfl (almove) <| lmp 71 rfl (pnil H) fun x71 H => lmp 72 rfl (poff underlying38 rfl sizeOf3 rfl H) fun x72 H => lmf 73 rfl (of_eq (yld isAgg3 H)) fun x73 H => lmal x43 74 rfl (almove) <| lmd 75 rfl HA_6 (dcall H) fun x75 h_3 w_7 H HA_7 => lm_nil <| then_normal <| freq (mk (Ap ([x0,x24,x2,ud,ud,ud,x10,x37,x43,x0,x10,x10,x12,x13,x1,x0,x16,x17,x18,x10,x20,x21,x22,x23,x24,x24,x26,x0,x28,x29,x30,x10,x32,x33,x34,x35,x24,x37,x10,x39,x40,x41,x24,x43,x2,x0,x46,x47] ++ [x48,x10,x50,x51,x52,x10,x54,x55,x56,x37,x58,x43,x10,x61,x62,x63,x64,x0,x10,x67,x68,x69,x10,x71,x72,x73,x43,x75]) 36)) ?_
   refine wp_ret <| then_ret <| end0 (results32) (by kernel_rfl) HA_7 H _ (.inr rfl)
  ·refine wp_skip <| then_normal <| freq (mk (Ap [x0,x24,x2,ud,ud,ud,x10,x37,x43,x0,x10,x10,x12,x13,x1,x0,x16,x17,x18,x10,x20,x21,x22,x23,x24,x24,x26,x0,x28,x29,x30,x10,x32,x33,x34,x35,x24,x37,x10,x39,x40,x41,x24,x43,x2] 67)) <| wp_seq <| lwpmx (Nat.testBit 524288) (Nat.testBit 0) (Nat.testBit 245495) [0,1,3,7,0,0,32,96,224,0,1008,0,2048,6144,14336,0,32768,98304,229376,524287] (Nat.testBit 0) (fun h' => h' = h_1) [0,1,2,3,4,5,6,7,8,9,10,11,12,13,14,15,16,17,18,19] HA_3 rfl fun w_8 HA_8 => lmal x0 76 rfl (almove) <| lmp 77 rfl (pnil H) fun x77 H => lmp 78 rfl (poff underlying64 rfl sizeOf54 rfl H) fun x78 H => lmf 79 rfl (of_eq (yld isAgg54 H)) fun x79 H => lmal x43 80 rfl (almove) <| lmal x10 81 rfl (almove) <| lmp 82 rfl (pnil H) fun x82 H => lmp 83 rfl (poff underlying38 rfl sizeOf3 rfl H) (fun x83 H => ?_)
   refine lmf 84 rfl (of_eq (yld isAgg3 H)) fun x84 H => lmal x37 85 rfl (almove) <| lmp 86 rfl (plit (pl := [(0,1),(1,1),(2,1),(3,1)]) zeroValue83 underlying83 ⟨(by kernel_rfl),sizeOf3,(by kernel_rfl),sizeOf3,(by kernel_rfl),sizeOf3,(by kernel_rfl),sizeOf3,trivial⟩ H) fun x86 H => lmal x10 87 rfl (almove) <| lmp 88 rfl (pnil H) fun x88 H => lmp 89 rfl (poff underlying38 rfl sizeOf3 rfl H) fun x89 H => lmf 90 rfl (of_eq (yld isAgg3 H)) fun x90 H => lmal x10 91 rfl (almove) <| lmp 92 rfl (pnil H) fun x92 H => lmp 93 rfl (poff underlying38 rfl sizeOf3 rfl H) fun x93 H => lmf 94 rfl (of_eq (yld isAgg3 H)) fun x94 H => lmd 95 rfl HA_8 (dcall H) fun x95 h_4 w_9 H HA_9 => lm_nil <| then_normal ?_
   refine freq (mk (Aq [x0,x24,x2,ud,ud,ud,x10,x37,x43,x0,x10,x10,x12,x13,x1,x0,x16,x17,x18,x10,x20,x21,x22,x23,x24,x24,x26,x0,x28,x29,x30,x10,x32,x33,x34,x35,x24,x37,x10,x39,x40,x41,x24,x43,x2] 31 (Ap [x0,x77,x78,x79,x43,x10,x82,x83,x84,x37,x86,x10,x88,x89,x90,x10,x92,x93,x94,x95] 16))) <| lwpmx (Nat.testBit 32768) (Nat.testBit 0) (Nat.testBit 16111) [0,0,2,6,14,0,32,96,224,0,992,0,2048,6144,14336,32767] (Nat.testBit 0) (fun h' => h' = h_4) [0,1,2,3,4,5,6,7,8,9,10,11,12,13,14,15] HA_9 rfl fun w_10 HA_10 => lmal x0 96 rfl (almove) <| lmal x10 97 rfl (almove) <| lmp 98 rfl (pnil H) fun x98 H => lmp 99 rfl (poff underlying38 rfl sizeOf3 rfl H) fun x99 H => lmf 100 rfl (of_eq (yld isAgg3 H)) fun x100 H => lmal x0 101 rfl (almove) <| lmp 102 rfl (pnil H) fun x102 H => lmp 103 rfl (poff underlying64 rfl sizeOf3 rfl H) fun x103 H => lmf 104 rfl (of_eq (yld isAgg3 H)) fun x104 H => lmal x24 105 rfl (almove) <| lmp 106 rfl (psub H) (fun x106 H => ?_)
   refine lmal x0 107 rfl (almove) <| lmp 108 rfl (pnil H) fun x108 H => lmp 109 rfl (poff underlying64 rfl sizeOf3 rfl H) fun x109 H => lmf 110 rfl (of_eq (yld isAgg3 H)) fun x110 H => lmd 111 rfl HA_10 (dcall H) fun x111 h_5 w_11 H HA_11 => lm_nil <| end0 (results32) (by kernel_rfl) HA_11 H _ (.inl rfl)

end Go.Proofs.YtmhhjpfkipficaaDoor


end

section
/- The shallow reading of one function, and that the function does it. Written by a program. -/
set_option linter.unusedVariables false
namespace Go.Proofs.YtmhhjpfkipficaaDoor
open Go Go.HW _root_.Go.Proofs.Tryd

def screen_Screen_Lines_S (x0 x1 x2 : Value) (h : Heap) (R : Value → Heap → Prop) : Prop :=
  screen_Screen_cur_c x0 h fun x8 h => 
  sNil x8 fun x10 =>
  sOff x10 2 fun x11 =>
  sSt h x11 (.bool false) fun h_1 => 
  sLt x1 (.int .i64 1) fun x13 =>
  sOr x13 (fun k_1 =>
  sNil x8 fun x16 =>
  sOff x16 1 fun x17 =>
  sLd h_1 x17 fun x18 =>
  sNil x0 fun x20 =>
  sOff x20 19 fun x21 =>
  sLd h_1 x21 fun x22 =>
  sLt x18 x22 fun x23 =>
  k_1 x23) fun x24 =>
  sOr x24 (fun k =>
  sNil x8 fun x27 =>
  sOff x27 1 fun x28 =>
  sLd h_1 x28 fun x29 =>
  sNil x0 fun x31 =>
  sOff x31 20 fun x32 =>
  sLd h_1 x32 fun x33 =>
  sGt x29 x33 fun x34 =>
  k x34) fun x35 =>
  sIf x35 (R unit h_1) (sNil x8 fun x37 =>
  sOff x37 0 fun x38 =>
  sSt h_1 x38 (.int .i64 0) fun h_2 => 
  sIf x2 (sNil x8 fun x42 =>
  sOff x42 1 fun x43 =>
  sLd h_2 x43 fun x44 =>
  screen_Screen_down_c x0 x44 x1 h_2 fun x46 h_3 => 
  R unit h_3) (sNil x8 fun x49 =>
  sOff x49 1 fun x50 =>
  sLd h_2 x50 fun x51 =>
  screen_Screen_up_c x0 x51 x1 h_2 fun x53 h_4 => 
  R unit h_4))
set_option maxRecDepth 100000 in
theorem screen_Screen_Lines_runs {x0 x1 x2 : Value} {h : Heap} {R : Value → Heap → Prop} (H : screen_Screen_Lines_S x0 x1 x2 h R) : screen_Screen_Lines_c x0 x1 x2 h R := by
 unfold screen_Screen_Lines_S at H
 refine runsof (b := ⟨#[x0,x1,x2,ud,ud,ud,ud,ud,ud,ud,ud,ud,ud,ud,ud,ud,ud,ud,ud,ud,ud,ud,ud,ud,ud,ud,ud,ud,ud,ud,ud,ud,ud,ud,ud,ud,ud,ud,ud,ud,ud,ud,ud,ud,ud,ud,ud,ud,ud,ud,ud,ud,ud,ud], []⟩) call54 func54 rfl fun w0 HA => wp_seq (lwp_list ?_)
 refine lsmove x0 <| lsd 8 HA (dcall H) fun x8 h w H HA => lsassign x8 <| ls_nil (then_normal ?_)
 refine freq ⟨#[x0,x1,x2,ud,ud,ud,x8,x0,x8,ud,ud,ud,ud,ud,ud,ud,ud,ud,ud,ud,ud,ud,ud,ud,ud,ud,ud,ud,ud,ud,ud,ud,ud,ud,ud,ud,ud,ud,ud,ud,ud,ud,ud,ud,ud,ud,ud,ud,ud,ud,ud,ud,ud,ud], []⟩ <| wp_seq (lwp_list ?_)
 refine lsmove x8 <| lsp 10 (pnil H) fun x10 H => lsp 11 (poff underlying38 rfl sizeOf4 rfl H) fun x11 H => lsdn HA (dstw sizeOf4 H) fun _ h_1 w_1 H HA_1 => ls_nil (then_normal ?_)
 refine freq ⟨#[x0,x1,x2,ud,ud,ud,x8,x0,x8,x8,x10,x11,ud,ud,ud,ud,ud,ud,ud,ud,ud,ud,ud,ud,ud,ud,ud,ud,ud,ud,ud,ud,ud,ud,ud,ud,ud,ud,ud,ud,ud,ud,ud,ud,ud,ud,ud,ud,ud,ud,ud,ud,ud,ud], []⟩ <| wp_seq <| wp_seq <| lwpqt HA_1 <| lqmove x1 <| lqp 13 (psLt H) fun x13 H => lqmove x13 <| lq_or [(),(),(),(),(),(),(),(),(),()] (fun K a => ∃ (D : Nat → Value) (x24 : Value),a = ⟨#[x0,x1,x2,ud,ud,ud,x8,x0,x8,x8,x10,x11,x1,x13,x13,(D 0),(D 1),(D 2),(D 3),(D 4),(D 5),(D 6),(D 7),(D 8),x24,ud,ud,ud,ud,ud,ud,ud,ud,ud,ud,ud,ud,ud,ud,ud,ud,ud,ud,ud,ud,ud,ud,ud,ud,ud,ud,ud,ud,ud], []⟩ ∧ K x24) H (fun hb_1 H => ?_) (fun hb_1 H => ?_) ?_
 ·refine lqmove (hg := by rw [hb_1]; kernel_rfl) x8 <| lqp (hg := by rw [hb_1]; kernel_rfl) 16 (pnil H) fun x16 H => lqp (hg := by rw [hb_1]; kernel_rfl) 17 (poff underlying38 rfl sizeOf3 rfl H) fun x17 H => lqy (hg := by rw [hb_1]; kernel_rfl) 18 HA_1 (yld isAgg3 H) fun x18 H => lqmove (hg := by rw [hb_1]; kernel_rfl) x0 <| lqp (hg := by rw [hb_1]; kernel_rfl) 20 (pnil H) fun x20 H => lqp (hg := by rw [hb_1]; kernel_rfl) 21 (poff underlying64 rfl sizeOf3 rfl H) fun x21 H => lqy (hg := by rw [hb_1]; kernel_rfl) 22 HA_1 (yld isAgg3 H) fun x22 H => lqp (hg := by rw [hb_1]; kernel_rfl) 23 (psLt H) fun x23 H => lqpickf x23 (by rw [hb_1]; kernel_rfl) <| lq_nil <| ⟨(gd ([x8,x16,x17,x18,x0,x20,x21,x22,x23])),x23,by kernel_rfl,H⟩
 ·refine lqskip 15 (by rw [hb_1]; kernel_rfl) <| lqskip 16 (by rw [hb_1]; kernel_rfl) <| lqskip 17 (by rw [hb_1]; kernel_rfl) <| lqskip 18 (by rw [hb_1]; kernel_rfl) <| lqskip 19 (by rw [hb_1]; kernel_rfl) <| lqskip 20 (by rw [hb_1]; kernel_rfl) <| lqskip 21 (by rw [hb_1]; kernel_rfl) <| lqskip 22 (by rw [hb_1]; kernel_rfl) <| lqskip 23 (by rw [hb_1]; kernel_rfl) <| lqpickt (.bool true) (by rw [hb_1]; kernel_rfl) <| lq_nil <| ⟨(gd (Ap [] 9)),(.bool true),by kernel_rfl,H⟩
 ·rintro _ ⟨D,x24,rfl,H⟩
  refine lqmove x24 <| lq_or [(),(),(),(),(),(),(),(),(),()] (fun K a => ∃ (D_1 : Nat → Value) (x35 : Value),a = ⟨#[x0,x1,x2,ud,ud,ud,x8,x0,x8,x8,x10,x11,x1,x13,x13,(D 0),(D 1),(D 2),(D 3),(D 4),(D 5),(D 6),(D 7),(D 8),x24,x24,(D_1 0),(D_1 1),(D_1 2),(D_1 3),(D_1 4),(D_1 5),(D_1 6),(D_1 7),(D_1 8),x35,ud,ud,ud,ud,ud,ud,ud,ud,ud,ud,ud,ud,ud,ud,ud,ud,ud,ud], []⟩ ∧ K x35) H (fun hb H => ?_) (fun hb H => ?_) ?_
  ·refine lqmove (hg := by rw [hb]; kernel_rfl) x8 <| lqp (hg := by rw [hb]; kernel_rfl) 27 (pnil H) fun x27 H => lqp (hg := by rw [hb]; kernel_rfl) 28 (poff underlying38 rfl sizeOf3 rfl H) fun x28 H => lqy (hg := by rw [hb]; kernel_rfl) 29 HA_1 (yld isAgg3 H) fun x29 H => lqmove (hg := by rw [hb]; kernel_rfl) x0 <| lqp (hg := by rw [hb]; kernel_rfl) 31 (pnil H) fun x31 H => lqp (hg := by rw [hb]; kernel_rfl) 32 (poff underlying64 rfl sizeOf3 rfl H) fun x32 H => lqy (hg := by rw [hb]; kernel_rfl) 33 HA_1 (yld isAgg3 H) fun x33 H => lqp (hg := by rw [hb]; kernel_rfl) 34 (psGt H) fun x34 H => lqpickf x34 (by rw [hb]; kernel_rfl) <| lq_nil <| ⟨(gd ([x8,x27,x28,x29,x0,x31,x32,x33,x34])),x34,by kernel_rfl,H⟩
  ·refine lqskip 26 (by rw [hb]; kernel_rfl) <| lqskip 27 (by rw [hb]; kernel_rfl) <| lqskip 28 (by rw [hb]; kernel_rfl) <| lqskip 29 (by rw [hb]; kernel_rfl) <| lqskip 30 (by rw [hb]; kernel_rfl) <| lqskip 31 (by rw [hb]; kernel_rfl) <| lqskip 32 (by rw [hb]; kernel_rfl) <| lqskip 33 (by rw [hb]; kernel_rfl) <| lqskip 34 (by rw [hb]; kernel_rfl) <| lqpickt (.bool true) (by rw [hb]; kernel_rfl) <| lq_nil <| ⟨(gd (Ap [] 9)),(.bool true),by kernel_rfl,H⟩
  ·rintro _ ⟨D_1,x35,rfl,H⟩
   refine lq_nil fun w_2 HA_2 => then_normal <| freq ⟨#[x0,x1,x2,ud,ud,ud,x8,x0,x8,x8,x10,x11,x1,x13,x13,(D 0),(D 1),(D 2),(D 3),(D 4),(D 5),(D 6),(D 7),(D 8),x24,x24,(D_1 0),(D_1 1),(D_1 2),(D_1 3),(D_1 4),(D_1 5),(D_1 6),(D_1 7),(D_1 8),x35,ud,ud,ud,ud,ud,ud,ud,ud,ud,ud,ud,ud,ud,ud,ud,ud,ud,ud], []⟩ <| wp_if rfl H (fun H => ?_) (fun H => ?_)
   ·refine wp_ret <| then_ret <| end0 (results54) (by kernel_rfl) HA_2 H _ (.inr rfl)
   ·refine wp_skip <| then_normal <| freq ⟨#[x0,x1,x2,ud,ud,ud,x8,x0,x8,x8,x10,x11,x1,x13,x13,(D 0),(D 1),(D 2),(D 3),(D 4),(D 5),(D 6),(D 7),(D 8),x24,x24,(D_1 0),(D_1 1),(D_1 2),(D_1 3),(D_1 4),(D_1 5),(D_1 6),(D_1 7),(D_1 8),x35,ud,ud,ud,ud,ud,ud,ud,ud,ud,ud,ud,ud,ud,ud,ud,ud,ud,ud], []⟩ <| wp_seq (lwp_list ?_)
    refine lsmove x8 <| lsp 37 (pnil H) fun x37 H => lsp 38 (poff underlying38 rfl sizeOf3 rfl H) fun x38 H => lsdn HA_2 (dstw sizeOf3 H) fun _ h_2 w_3 H HA_3 => ls_nil (then_normal ?_)
    refine freq ⟨#[x0,x1,x2,ud,ud,ud,x8,x0,x8,x8,x10,x11,x1,x13,x13,(D 0),(D 1),(D 2),(D 3),(D 4),(D 5),(D 6),(D 7),(D 8),x24,x24,(D_1 0),(D_1 1),(D_1 2),(D_1 3),(D_1 4),(D_1 5),(D_1 6),(D_1 7),(D_1 8),x35,x8,x37,x38,ud,ud,ud,ud,ud,ud,ud,ud,ud,ud,ud,ud,ud,ud,ud], []⟩ <| wp_seq (lwp_list ?_)
    refine lsmove x2 <| ls_nil (then_normal ?_)
    refine freq ⟨#[x0,x1,x2,ud,ud,ud,x8,x0,x8,x8,x10,x11,x1,x13,x13,(D 0),(D 1),(D 2),(D 3),(D 4),(D 5),(D 6),(D 7),(D 8),x24,x24,(D_1 0),(D_1 1),(D_1 2),(D_1 3),(D_1 4),(D_1 5),(D_1 6),(D_1 7),(D_1 8),x35,x8,x37,x38,x2,ud,ud,ud,ud,ud,ud,ud,ud,ud,ud,ud,ud,ud,ud], []⟩ <| wp_if rfl H (fun H => ?_) (fun H => ?_)
    ·refine lwp_list <| lsmove x0 <| lsmove x8 <| lsp 42 (pnil H) fun x42 H => lsp 43 (poff underlying38 rfl sizeOf3 rfl H) fun x43 H => lsy 44 HA_3 (yld isAgg3 H) fun x44 H => lsmove x1 <| lsd 46 HA_3 (dcall H) fun x46 h_3 w_4 H HA_4 => ls_nil <| end0 (results54) (by kernel_rfl) HA_4 H _ (.inl rfl)
    ·refine lwp_list <| lsmove x0 <| lsmove x8 <| lsp 49 (pnil H) fun x49 H => lsp 50 (poff underlying38 rfl sizeOf3 rfl H) fun x50 H => lsy 51 HA_3 (yld isAgg3 H) fun x51 H => lsmove x1 <| lsd 53 HA_3 (dcall H) fun x53 h_4 w_5 H HA_5 => ls_nil <| end0 (results54) (by kernel_rfl) HA_5 H _ (.inl rfl)

end Go.Proofs.YtmhhjpfkipficaaDoor


end
