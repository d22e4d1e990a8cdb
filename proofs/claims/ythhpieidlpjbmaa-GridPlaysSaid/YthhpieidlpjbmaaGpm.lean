/- Texts in one. -/
import Derived.Test.YthhpieidlpjbmaaRec
import Derived.Test.YthhpieidlpjbmaaCel
import Derived.Test.YthhpieidlpjbmaaNew
import Derived.Test.YthhpieidlpjbmaaFbetonyref06GridIn
import Derived.Test.YthhpieidlpjbmaaFbetonyref06GridAt
import Derived.Test.YthhpieidlpjbmaaFbetonyref06GridSet
import Derived.Test.YthhpieidlpjbmaaFbetonyref06New
import Derived.Test.YthhpieidlpjbmaaFbetonyref06Same
import Derived.Test.YthhpieidlpjbmaaFbetonylaw06Shows
import Derived.Test.YthhpieidlpjbmaaFil
import Derived.Test.YthhpieidlpjbmaaFbetonyref04far
import Derived.Test.YthhpieidlpjbmaaFbetonyref04row
import Derived.Test.YthhpieidlpjbmaaFbetonyref04Right
import Derived.Test.YthhpieidlpjbmaaFbetonyref04In
import Derived.Test.YthhpieidlpjbmaaFbetonyref06GridFill
import Derived.Test.YthhpieidlpjbmaaFbetonyref06Blit
import Derived.Test.YthhpieidlpjbmaaBl2
import Derived.Test.YthhpieidlpjbmaaFgridGridResize
import Derived.Test.YthhpieidlpjbmaaFbetonylaw06GridPlays
section
/- What is done with a grid: an act's cells. -/
set_option linter.unusedSimpArgs false
set_option linter.unusedVariables false
namespace Go.Proofs.Ythhpieidlpjbmaa
open Go Go.HW

structure Act where
  d : Int
  r : Rc
  x : Int
  y : Int
  c : Ce
def encAct (a : Act) : List Value := .int .i64 a.d :: (a.r.c.toList ++ ([.int .i64 a.x, .int .i64 a.y] ++ encCe a.c))
theorem encAct_len (a : Act) : (encAct a).length = 11 := rfl
/-- A part of an element is read. -/
theorem part {α : Type} {enc : α → List Value} {sz i n j : Nat} {h : Heap} {v : Value} {l : List α} {x : α} (ys rest : List Value) {K : Value → Prop} (q : Seq enc sz h v l) (hj : l[j]? = some x) (hp : (enc x).drop i = ys ++ rest) (hn : ys.length = n) : sOff (eltP v j sz) i (fun p => sLdN h p n K) = K (.agg ys.toArray) := by
  have hlt := (List.getElem?_eq_some_iff.1 hj).1
  obtain ⟨a, m, c, rfl, hn', hm, h2 | ⟨b, o, rfl, hb, hc⟩⟩ := q
  · omega
  · show sOff (ptr b (o + j * sz)) i _ = _
    rw [ev_off]
    have hl : h.lay b (o + j * sz + i) ys := fun k u hu => by
      have := hc j x hj (i + k) u (by rw [← List.getElem?_drop, hp, List.getElem?_append_left (List.getElem?_eq_some_iff.1 hu).1]; exact hu)
      rwa [← Nat.add_assoc] at this
    rw [hl.ldn hn]
end Go.Proofs.Ythhpieidlpjbmaa

end

section
/- Grids: what cells a grid has behind a copy. -/
set_option linter.unusedSimpArgs false
set_option linter.unusedVariables false
namespace Go.Proofs.Ythhpieidlpjbmaa
open Go Go.HW

theorem srow_cell {l : List Ce} {w g x0 y0 n j : Int} {k : Nat} (z : szOk w g l) (hx : 0 ≤ x0 ∧ x0 + n ≤ w) (hy : 0 ≤ y0 + k ∧ y0 + k < g) (hj : 0 ≤ j ∧ j < n) : (srow l w x0 y0 n k).getD j.toNat ce0 = cell l w g (x0 + j) (y0 + k) := by
  have zz := z
  obtain ⟨z1, z2, z3, z4, z5⟩ := zz
  have m := sz_mul ⟨z1, z2⟩ z4 hy
  rw [Int.mul_comm w g] at z5
  unfold cell srow
  rw [if_pos (inG_iff.2 (by omega)), getD_of, getD_of, List.getElem?_drop, List.getElem?_take_of_lt (by omega), List.getElem?_drop, List.getElem?_take_of_lt (by omega)]
  congr 2
  omega
/-- What cells a grid has behind a copy. -/
theorem copy_cell {l l' : List Ce} {r : Rc} {w g x y w' g' a b : Int} (z : szOk w g l) (z' : szOk w' g' l') (he : (itR r w g x y w' g').empty = false) :
    cell (putRows l' w' (itR r w g x y w' g').x (itR r w g x y w' g').y (srow l w ((itR r w g x y w' g').x - x + r.x) ((itR r w g x y w' g').y - y + r.y) (itR r w g x y w' g').w) (itR r w g x y w' g').h.toNat) w' g' a b = if (itR r w g x y w' g').has a b then cell l w g (a - x + r.x) (b - y + r.y) else cell l' w' g' a b := by
  obtain ⟨g1, g2, g3, g4, g5, g6⟩ := geo he
  generalize itR r w g x y w' g' = it at g1 g2 g3 g4 g5 g6
  rw [cell_put z' (m := it.w) g3 (by omega) g4.1 (by omega) (fun k hk => by rw [srow_len z g1 g5 (by omega)]; omega)]
  by_cases hh : it.has a b
  · have h2 := hh
    unfold Rc.has at h2
    rw [if_pos hh, if_pos (by omega), srow_cell z g1 (by omega) (by omega)]
    congr 1 <;> omega
  · have h2 := hh
    unfold Rc.has at h2
    rw [if_neg hh, if_neg (by omega)]

end Go.Proofs.Ythhpieidlpjbmaa

end

section
/- Grids: the document's answer. -/
set_option linter.unusedSimpArgs false
set_option linter.unusedVariables false
namespace Go.Proofs.Ythhpieidlpjbmaa
open Go Go.HW

section
variable {h0 h : Heap} {F : List HP} {R : Value → Heap → Prop} {kg : Nat} {v : Value} {w g : Int} {l : List Ce}
theorem rin6_spec {x y : Int} (H : ∀ h', Ext h h' → R (.bool (inG w g x y)) h') : betonyref06_Grid_In_c (.agg (grd w g v)) (.int .i64 x) (.int .i64 y) h R := by
  apply betonyref06_Grid_In_runs
  unfold betonyref06_Grid_In_S
  refine (HW.Sep.start h).box (c := grd w g v) rfl (fun k h1 s1 => ?_)
  have f0 : ∀ {K : Value → Prop}, sLd h1 (ptr k 0) K = K (.int .i64 w) := s1.ld rfl
  have f1 : ∀ {K : Value → Prop}, sLd h1 (ptr k 1) K = K (.int .i64 g) := s1.ld rfl
  simp only [ev_off, Nat.zero_add, f0, f1, ev_ge, ev_lt, ev_and_p]
  have e : (decide (x ≥ 0) && decide (x < w) && decide (y ≥ 0) && decide (y < g)) = inG w g x y := by unfold inG; rw [Bool.and_assoc (_ && _)]
  rw [e]
  exact H h1 s1.ext
theorem idx6 {x y : Int} (z : szOk w g l) (hin : inG w g x y = true) : ∃ i : Nat, IntKind.i64.wrap (IntKind.i64.wrap (y * w) + x) = i ∧ i < l.length ∧ (y * w + x).toNat = i := by
  obtain ⟨ix, iy⟩ := inG_iff.1 hin
  obtain ⟨i, j, n, e1, e2, e4, h5, h6, e3⟩ := idx z ix iy
  obtain ⟨z1, z2, z3, z4, z5⟩ := z
  have m := sz_mul ⟨z1, z2⟩ z4 iy
  exact ⟨i + n, by rw [wrap_i64 (x := y * w) (by omega) (by omega), wrap_i64 (by omega) (by omega)]; omega, by omega, e3⟩
theorem rat6_spec {x y : Int} (q : Seq encCe 4 h v l) (z : szOk w g l) (H : ∀ h', Ext h h' → R (.agg (cell l w g x y).a) h') : betonyref06_Grid_At_c (.agg (grd w g v)) (.int .i64 x) (.int .i64 y) h R := by
  apply betonyref06_Grid_At_runs
  unfold betonyref06_Grid_At_S
  refine (HW.Sep.start h).box (c := grd w g v) rfl (fun k h1 s1 => ?_)
  refine s1.new (fun k2 h2 s2 => ?_)
  rw [s2.b1.ldall (n := 3) rfl]
  refine rin6_spec (fun h3 e3 => ?_)
  have s3 := s2.ext' e3
  rw [ev_not, ev_if]
  unfold cell at H
  cases hin : inG w g x y with
  | false =>
    rw [hin, if_neg (by decide)] at H
    rw [if_pos (by decide)]
    refine build_intro (cs := ce0.a) rfl ?_
    refine s3.stall (cs := ce0.a) rfl rfl (ce_cell _) (fun h4 s4 => ?_)
    rw [s4.ldall (n := 4) rfl]
    exact H h4 s4.ext
  | true =>
    rw [hin, if_pos rfl] at H
    rw [if_neg (by decide)]
    have f0 : ∀ {K : Value → Prop}, sLd h3 (ptr k 0) K = K (.int .i64 w) := s3.b1.ld rfl
    have f2 : ∀ {K : Value → Prop}, sLd h3 (ptr k 2) K = K v := s3.b1.ld rfl
    obtain ⟨i, ei, hi, e⟩ := idx6 z hin
    rw [e] at H
    simp only [ev_off, Nat.zero_add, f0, f2, ev_mul, ev_add, ei]
    have hg : l[i]? = some (l.getD i ce0) := by rw [List.getD_eq_getElem?_getD, List.getElem?_eq_getElem hi]; rfl
    rw [(q.ext s3.ext).ldn hg rfl]
    refine s3.stall (cs := (l.getD i ce0).a) rfl rfl (ce_cell _) (fun h4 s4 => ?_)
    rw [s4.ldall (n := 4) rfl]
    exact H h4 s4.ext
abbrev z3r : Array Value := #[.int .i64 0, .int .i64 0, .slice none 0 0]
theorem grd_cell {h : Heap} (q : Seq encCe 4 h v l) : ∀ u ∈ (grd w g v).toList, Cell1 u := by
  intro u hu; simp [grd] at hu
  rcases hu with rfl | rfl | rfl
  · trivial
  · trivial
  · exact seq_cell q
theorem rset6_spec {x y : Int} {c : Ce} (q : HW.Rd encCe 4 h0 F v l) (s : HW.Sep h0 F h) (z : szOk w g l) (H : ∀ v' h', HW.Sep h0 (Sl encCe 4 v' (setC l w g x y c) :: F) h' → R (.agg (grd w g v')) h') : betonyref06_Grid_Set_c (.agg (grd w g v)) (.int .i64 x) (.int .i64 y) (.agg c.a) h R := by
  apply betonyref06_Grid_Set_runs
  unfold betonyref06_Grid_Set_S
  have hlen : l.length ≤ 262144 := by
    obtain ⟨z1, z2, z3, z4, z5⟩ := z
    have m := sz_mul (w := w) (h := g) (y := 0) ⟨z1, z2⟩ z4 ⟨by omega, by omega⟩
    rw [Int.mul_comm g w] at m
    omega
  refine s.box (c := grd w g v) rfl (fun k h1 s1 => ?_)
  refine s1.box (c := c.a) rfl (fun kc h2 s2 => ?_)
  refine s2.new (fun kr h3 s3 => ?_)
  -- kr, kc, k, F
  have hk : ∀ {A B : HP} {h' : Heap}, HW.Sep h0 (A :: B :: Blk k (grd w g v) 37 :: F) h' → h'.has k (grd w g v) 37 := fun s => s.b2.has
  refine ⟨fun h' => h'.has k (grd w g v) 37, s3.b2.has, ?_⟩
  have at_ : ∀ {o : Nat} {u : Value} {K : Value → Prop}, (grd w g v)[o]? = some u → sLdC (fun h' => h'.has k (grd w g v) 37) (ptr k o) K = K u := fun hv => ldc_at (C := fun h' => h'.has k (grd w g v) 37) (h0 := h3) s3.b2.has (fun h' e => by rw [e.at, hv])
  simp only [ev_off, Nat.zero_add]
  rw [at_ (o := 0) rfl, at_ (o := 1) rfl, at_ (o := 2) rfl]
  have j2 : ∀ {v' : Value} {k9 : Nat} {h' : Heap}, HW.Sep h0 (Blk k9 (grd w g v') 37 :: Blk kr z3r 37 :: Sl encCe 4 v' (setC l w g x y c) :: F) h' → betonyref06_Grid_Set_j2 R (ptr kr 0) (ptr k9 0) h' := by
    intro v' k9 h' s'
    unfold betonyref06_Grid_Set_j2
    rw [s'.ldall (n := 3) rfl]
    refine s'.b1.stall (cs := grd w g v') rfl rfl (grd_cell s'.b2.seq) (fun h4 s4 => ?_)
    rw [s4.ldall (n := 3) rfl]
    exact H v' h4 s4.tail2
  have j1 : ∀ {v' : Value} {k9 : Nat} {h' : Heap}, HW.Sep h0 (Blk k9 (grd w g v') 37 :: Sl encCe 4 v' l :: Blk kr z3r 37 :: Blk kc c.a 27 :: Blk k (grd w g v) 37 :: F) h' → betonyref06_Grid_Set_j1 R (.int .i64 x) (.int .i64 y) (ptr k 0) (ptr kc 0) (ptr kr 0) (ptr k9 0) h' := by
    intro v' k9 h' s'
    unfold betonyref06_Grid_Set_j1
    rw [s'.b4.ldall (n := 3) rfl]
    refine rin6_spec (fun h4 e4 => ?_)
    have s4 := s'.ext' e4
    rw [ev_if]
    cases hin : inG w g x y with
    | false =>
      rw [if_neg (by decide)]
      have : setC l w g x y c = l := by unfold setC; rw [if_neg (by rw [hin]; decide)]
      refine j2 (v' := v') ?_
      rw [this]
      exact s4.b4.tail.b3.tail.b1.p2
    | true =>
      rw [if_pos rfl]
      have f2 : ∀ {K : Value → Prop}, sLd h4 (ptr k9 2) K = K v' := s4.ld rfl
      have f0 : ∀ {K : Value → Prop}, sLd h4 (ptr k 0) K = K (.int .i64 w) := s4.b4.ld rfl
      obtain ⟨i, ei, hi, e⟩ := idx6 z hin
      simp only [ev_off, Nat.zero_add, f0, f2, ev_mul, ev_add, ei]
      rw [s4.b3.ldall (n := 4) rfl, s4.b1.seq.elt hi]
      refine s4.b1.setn encCe_len encCe_cell hi c (fun h5 s5 => j2 (v' := v') ?_)
      have : setC l w g x y c = l.set i c := by unfold setC; rw [if_pos hin, e]
      rw [this]
      exact s5.b4.tail.b3.tail.p2
  have bld : ∀ {v' : Value} {P : Value → Prop} {h' : Heap}, Seq encCe 4 h' v' l → P (.agg (grd w g v')) → sBuild z3r [(0, 1, .int .i64 w), (1, 1, .int .i64 g), (2, 1, v')] P := by
    intro v' P h' q' hP
    obtain ⟨va, vn, vm, rfl, _⟩ := q'
    exact build_intro (cs := grd w g (.slice va vn vm)) ⟨rfl, Nat.le_of_ble_eq_true rfl, rfl, Nat.le_of_ble_eq_true rfl, rfl, Nat.le_of_ble_eq_true rfl, rfl⟩ hP
  have qF : ∀ {L : List HP} {h' : Heap}, HW.Sep h0 (L ++ F) h' → Seq encCe 4 h' v l := fun s => q _ _ s
  refine ⟨?_, ?_⟩
  · refine s3.slit (enc := encCe) (sz := 4) encCe_len [] rfl rfl (fun a h4 _ s4 => ⟨s4.b3.has, ?_⟩)
    refine ⟨?_, ?_⟩
    · refine s4.app (enc := encCe) (sz := 4) rfl (by decide) encCe_len encCe_cell (qF (L := [_, _, _, _]) s4) (by simp only [List.length_nil]; omega) (by decide) (fun v' h5 _ s5 => ⟨s5.b3.has, ?_⟩)
      refine bld s5.seq ?_
      refine s5.new (fun k9 h6 s6 => ⟨s6.b4.has, ?_⟩)
      refine s6.stall (cs := grd w g v') rfl rfl (grd_cell s6.b1.seq) (fun h7 s7 => j1 s7)
    · refine s4.new (fun k9 h5 s5 => ⟨s5.b4.has, ?_⟩)
      refine s5.b1.app (enc := encCe) (sz := 4) rfl (by decide) encCe_len encCe_cell (qF (L := [_, _, _, _, _]) s5) (by simp only [List.length_nil]; omega) (by decide) (fun v' h6 _ s6 => ⟨s6.b4.has, ?_⟩)
      refine bld s6.seq ?_
      refine s6.b1.stall (cs := grd w g v') rfl rfl (grd_cell s6.seq) (fun h7 s7 => j1 s7)
  · refine s3.new (fun k9 h4 s4 => ⟨s4.b3.has, ?_⟩)
    refine s4.slit (enc := encCe) (sz := 4) encCe_len [] rfl rfl (fun a h5 _ s5 => ⟨s5.b4.has, ?_⟩)
    refine s5.app (enc := encCe) (sz := 4) rfl (by decide) encCe_len encCe_cell (qF (L := [_, _, _, _, _]) s5) (by simp only [List.length_nil]; omega) (by decide) (fun v' h6 _ s6 => ⟨s6.b4.has, ?_⟩)
    refine bld s6.seq ?_
    refine s6.b1.stall (cs := grd w g v') rfl rfl (grd_cell s6.seq) (fun h7 s7 => j1 s7)
theorem rnew6_spec (hc : 1 ≤ w ∧ w ≤ 512 ∧ 1 ≤ g ∧ g ≤ 512) (H : ∀ v h', szOk w g (List.replicate (w * g).toNat ce0) → HW.Sep h [Sl encCe 4 v (List.replicate (w * g).toNat ce0)] h' → R (.agg (grd w g v)) h') : betonyref06_New_c (.int .i64 w) (.int .i64 g) h R := by
  apply betonyref06_New_runs
  unfold betonyref06_New_S
  have m := sz_mul (w := w) (h := g) (y := 0) ⟨hc.1, hc.2.1⟩ hc.2.2.2 ⟨by omega, by omega⟩
  rw [Int.mul_comm g w] at m
  have m0 : 0 ≤ w * g := Int.mul_nonneg (by omega) (by omega)
  refine (HW.Sep.start h).new (fun k h1 s1 => ?_)
  rw [ev_mul, wrap_i64 (by omega) (by omega)]
  refine s1.make (enc := encCe) (sz := 4) encCe_len ce0 rfl (w * g).toNat (w * g).toNat (by omega) (by omega) (Nat.le_refl _) (by omega) (by omega) (fun v h2 cv s2 => ?_)
  obtain ⟨va, vn, vm, rfl, _⟩ := s2.seq
  refine build_intro (cs := grd w g (.slice va vn vm)) ⟨rfl, Nat.le_of_ble_eq_true rfl, rfl, Nat.le_of_ble_eq_true rfl, rfl, Nat.le_of_ble_eq_true rfl, rfl⟩ ?_
  refine s2.b1.stall (cs := grd w g (.slice va vn vm)) rfl rfl (grd_cell s2.seq) (fun h3 s3 => ?_)
  rw [s3.ldall (n := 3) rfl]
  exact H _ h3 ⟨hc.1, hc.2.1, hc.2.2.1, hc.2.2.2, by rw [List.length_replicate]; omega⟩ s3.tail
theorem same06_spec {u u' : Value} {n : List Ce} (hn : n.length ≤ 300000) (q : Seq encCe 4 h u n) (q' : Seq encCe 4 h u' n) (H : R (.bool true) h) : betonyref06_Same_c u u' h R := by
  apply betonyref06_Same_runs
  unfold betonyref06_Same_S
  rw [q.len, q'.len, ev_ne, bne_self_eq_false, ev_if, if_neg (by decide)]
  refine ⟨fun t h' => ∃ i : Nat, i ≤ n.length ∧ t = .int .i64 i ∧ h' = h, fun t _ => match t with | .int _ i => (n.length - i).toNat | _ => 0, ⟨0, Nat.zero_le _, rfl, rfl⟩, ?_⟩
  rintro _ h' ⟨i, hi, rfl, e⟩
  subst e
  simp only []
  unfold betonyref06_Same_l1
  rw [q.len, ev_lt, ev_if]
  by_cases hlt : i < n.length
  · rw [if_pos (by simpa using hlt)]
    have hg : n[i]? = some n[i] := List.getElem?_eq_getElem hlt
    rw [q.ldn hg rfl, q'.ldn hg rfl, ce_enc, ev_neqAgg (ce_ok _) (ce_ok _), eqVs_selfG (ce_ok n[i]), ev_if, if_neg (by decide), ev_add, wrap_i64 (by omega) (by omega)]
    exact ⟨⟨i + 1, hlt, rfl, rfl⟩, by simp only; omega⟩
  · rw [if_neg (by simpa using hlt)]; exact H
theorem rowI_spec {y : Int} (s : HW.Sep h0 (Blk kg (grd w g v) 68 :: Sl encCe 4 v l :: F) h) (z : szOk w g l) (hy : 0 ≤ y ∧ y < g) (H : ∀ v' h', Ext h h' → Seq encCe 4 h' v' ((l.take ((y + 1) * w).toNat).drop (y * w).toNat) → R v' h') : grid_Grid_Row_c (ptr kg 0) (.int .i64 y) h R := by
  apply grid_Grid_Row_runs
  unfold grid_Grid_Row_S
  have f1 : ∀ {K : Value → Prop}, sLd h (ptr kg 1) K = K (.int .i64 g) := s.ld rfl
  simp only [ev_lt, ev_ge, ev_nil, ev_off, Nat.zero_add, f1, ev_or_p, ev_if]
  rw [if_neg (by simp only [Bool.or_eq_true, decide_eq_true_eq]; omega)]
  refine row_spec s z hy ?_
  have zz := z
  obtain ⟨z1, z2, z3, z4, z5⟩ := zz
  have m := sz_mul ⟨z1, z2⟩ z4 hy
  rw [Int.mul_comm w g] at z5
  have q := s.b1.seq.cutP (i := (y * w).toNat) (j := ((y + 1) * w).toNat) (by omega) (by omega)
  refine clone_cells (F := []) (Rd.base q) (HW.Sep.start h) (by rw [List.length_drop, List.length_take]; omega) (by rw [List.length_drop, List.length_take]; omega) (fun v' h1 c1 s1 => ?_)
  exact H v' h1 s1.ext s1.seq
theorem shows_spec {vx : Value} (s : HW.Sep h0 (Blk kg (grd w g v) 68 :: Sl encCe 4 v l :: F) h) (qx : Seq encCe 4 h vx l) (z : szOk w g l) (H : ∀ h', Ext h h' → R (.int .i64 0) h') : betonylaw06_Shows_c (ptr kg 0) (.agg (grd w g vx)) h R := by
  apply betonylaw06_Shows_runs
  unfold betonylaw06_Shows_S
  refine (HW.Sep.start h).box (c := grd w g vx) rfl (fun k h1 s1 => ?_)
  refine size_spec (s.ext' s1.ext) ?_
  have f0 : ∀ {K : Value → Prop}, sLd h1 (ptr k 0) K = K (.int .i64 w) := s1.ld rfl
  have f1 : ∀ {K : Value → Prop}, sLd h1 (ptr k 1) K = K (.int .i64 g) := s1.ld rfl
  simp only [ev_tup, List.getElem?_toArray, List.getElem?_cons_succ, List.getElem?_cons_zero, ev_off, Nat.zero_add, f0, f1, ev_ne, bne_self_eq_false, ev_or_p, Bool.or_self, ev_if, Bool.false_eq_true, if_false]
  have zz := z
  obtain ⟨z1, z2, z3, z4, z5⟩ := zz
  refine ⟨fun t h' => ∃ i : Nat, (i : Int) ≤ g ∧ t = .int .i64 i ∧ HW.Sep h [Blk k (grd w g vx) 37] h', fun t _ => match t with | .int _ i => (g - i).toNat | _ => 0, ⟨0, by omega, rfl, s1⟩, ?_⟩
  rintro _ h2 ⟨i, hi, rfl, s2⟩
  simp only []
  unfold betonylaw06_Shows_l1
  rw [ev_lt, ev_if]
  by_cases hlt : (i : Int) < g
  · rw [if_pos (decide_eq_true hlt)]
    refine ⟨fun h' => h'.has k (grd w g vx) 37, s2.has, ?_⟩
    have hy : 0 ≤ (i : Int) ∧ (i : Int) < g := ⟨by omega, hlt⟩
    have m := sz_mul ⟨z1, z2⟩ z4 hy
    rw [Int.mul_comm w g] at z5
    refine rowI_spec (s.ext' s2.ext) z hy (fun v' h3 e3 q3 => ⟨(s2.ext' e3).has, ?_⟩)
    have c2 : ∀ {K : Value → Prop}, sLdC (fun h' => h'.has k (grd w g vx) 37) (ptr k 2) K = K vx := fun {K} => ldc_at (C := fun h' => h'.has k (grd w g vx) 37) (h0 := h2) s2.has (fun h' e => by rw [e.at]; rfl)
    rw [ev_off, Nat.zero_add, c2]
    simp only [ev_mul, ev_add]
    rw [wrap_i64 (by omega) (by omega), wrap_i64 (x := (i : Int) + 1) (by omega) (by omega), wrap_i64 (by omega) (by omega)]
    obtain ⟨a, ha⟩ : ∃ a : Nat, (i : Int) * w = a := ⟨((i : Int) * w).toNat, by omega⟩
    obtain ⟨b, hb⟩ : ∃ b : Nat, ((i : Int) + 1) * w = b := ⟨(((i : Int) + 1) * w).toNat, by omega⟩
    rw [ha, hb] at q3 ⊢
    rw [Int.toNat_natCast, Int.toNat_natCast] at q3
    have qx3 := (qx.ext s2.ext).ext e3
    refine qx3.slK (i := a) (j := b) (by omega) (by omega) ⟨.i64, rfl⟩ ⟨.i64, rfl⟩ ?_
    have qc := qx3.cutP (i := a) (j := b) (by omega) (by omega)
    refine same06_spec (by rw [List.length_drop, List.length_take]; omega) q3 qc ?_
    rw [ev_not, ev_if, if_neg (by decide)]
    exact ⟨⟨i + 1, by omega, by rw [Int.natCast_add]; rfl, s2.ext' e3⟩, by omega⟩
  · rw [if_neg (by simpa using hlt)]
    exact H h2 s2.ext
end
end Go.Proofs.Ythhpieidlpjbmaa

end

section
/- Grids: the document's answer: rectangles filled. -/
set_option linter.unusedSimpArgs false
set_option linter.unusedVariables false
namespace Go.Proofs.Ythhpieidlpjbmaa
open Go Go.HW

section
variable {h0 h : Heap} {F : List HP} {R : Value → Heap → Prop} {w g : Int} {l : List Ce} {v : Value}
theorem rfar_spec {n : Int} (H : R (.bool (!nearB n)) h) : betonyref04_far_c (.int .i64 n) h R := by
  apply betonyref04_far_runs
  unfold betonyref04_far_S
  simp only [ev_lt, ev_gt, ev_or_p]
  have : (decide (n < -1073741824) || decide (n > 1073741824)) = !nearB n := by
    unfold nearB
    rw [Bool.eq_iff_iff]
    simp only [Bool.or_eq_true, decide_eq_true_eq, Bool.not_eq_true', Bool.and_eq_false_iff, decide_eq_false_iff_not]
    omega
  rw [this]; exact H
theorem right04_spec {r : Rc} (H : ∀ h', Ext h h' → R (.bool r.right) h') : betonyref04_Right_c r.v h R := by
  apply betonyref04_Right_runs
  unfold betonyref04_Right_S
  refine (HW.Sep.start h).box (c := r.c) r.cells (fun b h1 s1 => ?_)
  have fx : ∀ {h' : Heap}, Ext h1 h' → ∀ {o : Nat} {u : Value} {K : Value → Prop}, r.c[o]? = some u → sLd h' (ptr b o) K = K u := fun e _ _ _ hv => (s1.ext' e).ld hv
  rw [ev_off, Nat.zero_add, fx (Ext.refl _) rfl]
  refine rfar_spec ?_
  rw [ev_not, Bool.not_not]
  refine and_ext (y := nearB r.y) (fun _ K' HK => by rw [ev_off, Nat.zero_add, fx (Ext.refl _) rfl]; exact rfar_spec (by rw [ev_not, Bool.not_not]; exact HK _ (Ext.refl _))) (fun h2 e2 => ?_)
  refine and_ext (y := nearB r.w) (fun _ K' HK => by rw [ev_off, Nat.zero_add, fx e2 rfl]; exact rfar_spec (by rw [ev_not, Bool.not_not]; exact HK _ (Ext.refl _))) (fun h3 e3 => ?_)
  have e3 := e2.trans e3
  refine and_ext (y := nearB r.h) (fun _ K' HK => by rw [ev_off, Nat.zero_add, fx e3 rfl]; exact rfar_spec (by rw [ev_not, Bool.not_not]; exact HK _ (Ext.refl _))) (fun h4 e4 => ?_)
  have e4 := e3.trans e4
  have f2 : ∀ {K : Value → Prop}, sLd h4 (ptr b 2) K = K (.int .i64 r.w) := fx e4 rfl
  have f3 : ∀ {K : Value → Prop}, sLd h4 (ptr b 3) K = K (.int .i64 r.h) := fx e4 rfl
  simp only [ev_off, Nat.zero_add, f2, f3, ev_ge, ev_and_p, ge_iff_le]
  exact H h4 (s1.ext.trans e4)
theorem row04_spec {n a m : Int} (hn : -4611686018427387904 ≤ n ∧ n ≤ 4611686018427387904) (H : R (.bool (decide (a ≤ n) && decide (n < a + m))) h) (ha : -2147483648 ≤ a ∧ a ≤ 2147483648) (hm : -2147483648 ≤ m ∧ m ≤ 2147483648) : betonyref04_row_c (.int .i64 n) (.int .i64 a) (.int .i64 m) h R := by
  apply betonyref04_row_runs
  unfold betonyref04_row_S
  simp only [ev_ge, ev_sub, ev_lt, ev_and_p]
  rw [wrap_i64 (by omega) (by omega)]
  have : (decide (m ≥ 1) && decide (n ≥ a) && decide (n - a < m)) = (decide (a ≤ n) && decide (n < a + m)) := by
    rw [Bool.eq_iff_iff]; simp only [Bool.and_eq_true, decide_eq_true_eq]; omega
  rw [this]; exact H
theorem in04_spec {r : Rc} {x y : Int} (hr : r.Ok) (hx : -4611686018427387904 ≤ x ∧ x ≤ 4611686018427387904) (hy : -4611686018427387904 ≤ y ∧ y ≤ 4611686018427387904) (H : ∀ h', Ext h h' → R (.bool (decide (r.has x y))) h') : betonyref04_In_c r.v (.int .i64 x) (.int .i64 y) h R := by
  apply betonyref04_In_runs
  unfold betonyref04_In_S
  obtain ⟨r1, r2, r3, r4⟩ := hr
  refine (HW.Sep.start h).box (c := r.c) r.cells (fun b h1 s1 => ?_)
  have fx : ∀ {h' : Heap}, Ext h1 h' → ∀ {o : Nat} {u : Value} {K : Value → Prop}, r.c[o]? = some u → sLd h' (ptr b o) K = K u := fun e _ _ _ hv => (s1.ext' e).ld hv
  rw [ev_off, Nat.zero_add, fx (Ext.refl _) rfl, ev_off, Nat.zero_add, fx (Ext.refl _) rfl]
  refine row04_spec hx ?_ (by omega) (by omega)
  refine and_ext (y := decide (r.y ≤ y) && decide (y < r.y + r.h)) (fun _ K' HK => by
    rw [ev_off, Nat.zero_add, fx (Ext.refl _) rfl, ev_off, Nat.zero_add, fx (Ext.refl _) rfl]
    exact row04_spec hy (HK _ (Ext.refl _)) (by omega) (by omega)) (fun h2 e2 => ?_)
  have : ((decide (r.x ≤ x) && decide (x < r.x + r.w)) && (decide (r.y ≤ y) && decide (y < r.y + r.h))) = decide (r.has x y) := by
    rw [Bool.eq_iff_iff]; simp only [Bool.and_eq_true, decide_eq_true_eq]; unfold Rc.has; omega
  rw [this]
  exact H h2 (s1.ext.trans e2)
/-- The first i cells of one list, then those of another one. -/
def mixL (T l : List Ce) (i : Nat) : List Ce := T.take i ++ l.drop i
theorem mixL_len {T l : List Ce} {i : Nat} (h : T.length = l.length) : (mixL T l i).length = l.length := by unfold mixL; rw [List.length_append, List.length_take, List.length_drop]; omega
theorem mixL_zero {T l : List Ce} : mixL T l 0 = l := rfl
theorem mixL_full {T l : List Ce} (h : T.length = l.length) : mixL T l l.length = T := by unfold mixL; rw [List.take_of_length_le (by omega), List.drop_of_length_le (Nat.le_refl _), List.append_nil]
theorem mixL_step {T l : List Ce} {i : Nat} (h : T.length = l.length) (hi : i < l.length) : (mixL T l i).set i (T.getD i ce0) = mixL T l (i + 1) := by
  unfold mixL
  have e1 : T[i]? = some (T.getD i ce0) := by rw [getD_of, List.getElem?_eq_getElem (by omega)]; rfl
  rw [List.set_append_right _ _ (by rw [List.length_take]; omega), List.length_take, Nat.min_eq_left (by omega), Nat.sub_self, List.take_add_one, e1, List.append_assoc]
  congr 1
  rw [List.drop_eq_getElem_cons hi]
  rfl
theorem mixL_same {T l : List Ce} {i : Nat} (h : T.length = l.length) (hi : i < l.length) (e : T.getD i ce0 = l.getD i ce0) : mixL T l i = mixL T l (i + 1) := by
  rw [← mixL_step h hi]
  refine (List.ext_getElem? fun j => ?_).symm
  by_cases hj : j = i
  · subst hj
    rw [List.getElem?_set_self (by rw [mixL_len h]; exact hi)]
    unfold mixL
    rw [List.getElem?_append_right (by rw [List.length_take]; omega), List.length_take, Nat.min_eq_left (by omega), Nat.sub_self, List.getElem?_drop, Nat.add_zero, e, getD_of, List.getElem?_eq_getElem hi]; rfl
  · rw [List.getElem?_set_ne (by omega)]
/-- How many cells of the first rows, and of the first columns of one more, are in a rectangle. -/
def cntR (q : Rc) (w : Nat) (a b : Nat) : Int := cn q.x q.w w * cn q.y q.h b + (if q.y ≤ (b : Int) ∧ (b : Int) < q.y + q.h then cn q.x q.w a else 0)
theorem cntR_zero {q : Rc} {w b : Nat} : cntR q w 0 b = cn q.x q.w w * cn q.y q.h b := by
  unfold cntR
  have : cn q.x q.w 0 = 0 := rfl
  rw [this]; split <;> omega
theorem cntR_col {q : Rc} {w a b : Nat} : cntR q w (a + 1) b = cntR q w a b + (if q.has (a : Int) (b : Int) then 1 else 0) := by
  unfold cntR
  have e : cn q.x q.w (a + 1) = cn q.x q.w a + (if q.x ≤ (a : Int) ∧ (a : Int) < q.x + q.w then 1 else 0) := rfl
  rw [e]
  by_cases hk : q.y ≤ (b : Int) ∧ (b : Int) < q.y + q.h
  · rw [if_pos hk, if_pos hk]
    by_cases hx : q.x ≤ (a : Int) ∧ (a : Int) < q.x + q.w
    · rw [if_pos hx, if_pos (show q.has (a : Int) (b : Int) from ⟨hx.1, hx.2, hk.1, hk.2⟩)]; omega
    · rw [if_neg hx, if_neg (show ¬ q.has (a : Int) (b : Int) from fun h => hx ⟨h.1, h.2.1⟩)]; omega
  · rw [if_neg hk, if_neg hk, if_neg (show ¬ q.has (a : Int) (b : Int) from fun h => hk h.2.2)]; omega
theorem cntR_row {q : Rc} {w b : Nat} : cntR q w w b = cntR q w 0 (b + 1) := by
  rw [cntR_zero]
  unfold cntR
  have e : cn q.y q.h (b + 1) = cn q.y q.h b + (if q.y ≤ (b : Int) ∧ (b : Int) < q.y + q.h then 1 else 0) := rfl
  rw [e, Int.mul_add]
  split <;> omega
theorem cn_rng {a m : Int} : ∀ n : Nat, 0 ≤ cn a m n ∧ cn a m n ≤ n
  | 0 => by have : cn a m 0 = 0 := rfl; omega
  | n + 1 => by
    have := cn_rng (a := a) (m := m) n
    rw [cn]; split <;> omega
theorem cntR_rng {q : Rc} {w a b : Nat} (hw : w ≤ 512) (hb : b ≤ 512) (ha : a ≤ 512) : 0 ≤ cntR q w a b ∧ cntR q w a b ≤ 300000 := by
  have h1 := cn_rng (a := q.x) (m := q.w) w
  have h2 := cn_rng (a := q.y) (m := q.h) b
  have h3 := cn_rng (a := q.x) (m := q.w) a
  have m0 : 0 ≤ cn q.x q.w w * cn q.y q.h b := Int.mul_nonneg h1.1 h2.1
  have m1 : cn q.x q.w w * cn q.y q.h b ≤ 512 * 512 := Int.mul_le_mul (by omega) (by omega) h2.1 (by decide)
  unfold cntR
  split <;> omega
end
end Go.Proofs.Ythhpieidlpjbmaa

end

section
/- Grids: the document's answer: Fill. -/
set_option linter.unusedSimpArgs false
set_option linter.unusedVariables false
namespace Go.Proofs.Ythhpieidlpjbmaa
open Go Go.HW

section
variable {h0 h : Heap} {F : List HP} {R : Value → Heap → Prop} {v : Value} {l : List Ce}
/-- A grid of the document with cells of its own: in whatever order. -/
theorem dup {w g : Int} {C : Heap → Prop} {J : Value → Heap → Prop} (hC : ∀ L h', HW.Sep h0 (L ++ F) h' → C h') (q : HW.Rd encCe 4 h0 F v l) (s : HW.Sep h0 F h) (hlen : l.length ≤ 262144)
    (HJ : ∀ k v' h', HW.Sep h0 (Blk k (grd w g v') 37 :: Sl encCe 4 v' l :: F) h' → J (ptr k 0) h') :
    (sSlit h #[] [] 27 0 fun x16 h13 => C h13 ∧ (
      (sApp h13 x16 v #[.int .i32 0, .int .i64 0, .int .i64 0, .int .i64 0] 27 32 fun x19 h14 => C h14 ∧ (sBuild z3r [(0, 1, .int .i64 w), (1, 1, .int .i64 g), (2, 1, x19)] fun x20 => sNew h14 z3r 37 fun k8 h15 => C h15 ∧ (sStN h15 k8 x20 3 fun h16 => J k8 h16))) ∧
      (sNew h13 z3r 37 fun k8 h17 => C h17 ∧ (sApp h17 x16 v #[.int .i32 0, .int .i64 0, .int .i64 0, .int .i64 0] 27 32 fun x19 h18 => C h18 ∧ (sBuild z3r [(0, 1, .int .i64 w), (1, 1, .int .i64 g), (2, 1, x19)] fun x20 => sStN h18 k8 x20 3 fun h19 => J k8 h19))))) ∧
    (sNew h z3r 37 fun k8 h20 => C h20 ∧ (sSlit h20 #[] [] 27 0 fun x16 h21 => C h21 ∧ (sApp h21 x16 v #[.int .i32 0, .int .i64 0, .int .i64 0, .int .i64 0] 27 32 fun x19 h22 => C h22 ∧ (sBuild z3r [(0, 1, .int .i64 w), (1, 1, .int .i64 g), (2, 1, x19)] fun x20 => sStN h22 k8 x20 3 fun h23 => J k8 h23)))) := by
  have bld : ∀ {v' : Value} {P : Value → Prop} {h' : Heap}, Seq encCe 4 h' v' l → P (.agg (grd w g v')) → sBuild z3r [(0, 1, .int .i64 w), (1, 1, .int .i64 g), (2, 1, v')] P := by
    intro v' P h' q' hP
    obtain ⟨va, vn, vm, rfl, _⟩ := q'
    exact build_intro (cs := grd w g (.slice va vn vm)) ⟨rfl, Nat.le_of_ble_eq_true rfl, rfl, Nat.le_of_ble_eq_true rfl, rfl, Nat.le_of_ble_eq_true rfl, rfl⟩ hP
  refine ⟨?_, ?_⟩
  · refine s.slit (enc := encCe) (sz := 4) encCe_len [] rfl rfl (fun a h4 _ s4 => ⟨hC [_] _ s4, ?_⟩)
    refine ⟨?_, ?_⟩
    · refine s4.app (enc := encCe) (sz := 4) rfl (by decide) encCe_len encCe_cell (q [_] _ s4) (by simp only [List.length_nil]; omega) (by decide) (fun v' h5 _ s5 => ⟨hC [_] _ s5, ?_⟩)
      refine bld s5.seq ?_
      refine s5.new (fun k9 h6 s6 => ⟨hC [_, _] _ s6, ?_⟩)
      exact s6.stall (cs := grd w g v') rfl rfl (grd_cell s6.b1.seq) (fun h7 s7 => HJ k9 v' h7 s7)
    · refine s4.new (fun k9 h5 s5 => ⟨hC [_, _] _ s5, ?_⟩)
      refine s5.b1.app (enc := encCe) (sz := 4) rfl (by decide) encCe_len encCe_cell (q [_, _] _ s5) (by simp only [List.length_nil]; omega) (by decide) (fun v' h6 _ s6 => ⟨hC [_, _] _ s6, ?_⟩)
      refine bld s6.seq ?_
      exact s6.b1.stall (cs := grd w g v') rfl rfl (grd_cell s6.seq) (fun h7 s7 => HJ k9 v' h7 s7)
  · refine s.new (fun k9 h4 s4 => ⟨hC [_] _ s4, ?_⟩)
    refine s4.slit (enc := encCe) (sz := 4) encCe_len [] rfl rfl (fun a h5 _ s5 => ⟨hC [_, _] _ s5, ?_⟩)
    refine s5.app (enc := encCe) (sz := 4) rfl (by decide) encCe_len encCe_cell (q [_, _] _ s5) (by simp only [List.length_nil]; omega) (by decide) (fun v' h6 _ s6 => ⟨hC [_, _] _ s6, ?_⟩)
    refine bld s6.seq ?_
    exact s6.b1.stall (cs := grd w g v') rfl rfl (grd_cell s6.seq) (fun h7 s7 => HJ k9 v' h7 s7)
theorem mul_lt {W G b a : Nat} (hb : b < G) (ha : a < W) : b * W + a < W * G := by
  have : (b + 1) * W ≤ G * W := Nat.mul_le_mul_right _ (by omega)
  rw [Nat.add_mul, Nat.one_mul, Nat.mul_comm G W] at this
  omega
theorem inG_nat {W G a b : Nat} (ha : a < W) (hb : b < G) : inG (W : Int) (G : Int) (a : Int) (b : Int) = true := inG_iff.2 (by omega)
theorem cell_nat {W G a b : Nat} {m : List Ce} (ha : a < W) (hb : b < G) : cell m (W : Int) (G : Int) (a : Int) (b : Int) = m.getD (b * W + a) ce0 := by
  unfold cell
  rw [if_pos (inG_nat ha hb)]
  congr 1
theorem both_zero {a : Rc} {w g : Int} (h : (a.both (allR w g)).empty = true) : a.both (allR w g) = ⟨0, 0, 0, 0⟩ := by
  unfold Rc.both at *
  split
  · rename_i hr
    rw [if_pos hr] at h
    unfold rof at *
    split
    · rfl
    · rename_i hn
      rw [if_neg hn] at h
      unfold Rc.empty at h
      simp at h
      omega
  · rfl
theorem cntR_none {w a b : Nat} : cntR ⟨0, 0, 0, 0⟩ w a b = 0 := by
  have e : ∀ n, cn 0 0 n = 0 := fun n => by
    induction n with
    | zero => rfl
    | succ n ih => rw [cn, ih, if_neg (by omega)]; rfl
  unfold cntR
  rw [e, e, e]; split <;> rfl
theorem rfill_spec {w g : Int} {r : Rc} {c : Ce} (q : HW.Rd encCe 4 h0 F v l) (s : HW.Sep h0 F h) (z : szOk w g l) (H : ∀ v' h', HW.Sep h0 (Sl encCe 4 v' (fillR l w (r.both (allR w g)) c) :: F) h' → R (.tuple #[.agg (grd w g v'), .int .i64 (r.both (allR w g)).area]) h') : betonyref06_Grid_Fill_c (.agg (grd w g v)) r.v (.agg c.a) h R := by
  apply betonyref06_Grid_Fill_runs
  unfold betonyref06_Grid_Fill_S
  have zz := z
  obtain ⟨z1, z2, z3, z4, z5⟩ := zz
  have m := sz_mul (w := w) (h := g) (y := 0) ⟨z1, z2⟩ z4 ⟨by omega, by omega⟩
  rw [Int.mul_comm g w] at m
  refine s.box (c := grd w g v) rfl (fun k3 h1 s1 => ?_)
  refine s1.box (c := r.c) r.cells (fun k4 h2 s2 => ?_)
  refine s2.box (c := c.a) rfl (fun k5 h3 s3 => ?_)
  refine s3.new (fun k6 h4 s4 => ?_)
  have s4 : HW.Sep h0 (Blk k6 z3r 37 :: Blk k5 c.a 27 :: Blk k4 r.c 23 :: Blk k3 (grd w g v) 37 :: F) h4 := s4
  have hk : ∀ L h', HW.Sep h0 (L ++ (Blk k6 z3r 37 :: Blk k5 c.a 27 :: Blk k4 r.c 23 :: Blk k3 (grd w g v) 37 :: F)) h' → h'.has k3 (grd w g v) 37 := fun L h' s' => by
    have p : (L ++ (Blk k6 z3r 37 :: Blk k5 c.a 27 :: Blk k4 r.c 23 :: Blk k3 (grd w g v) 37 :: F)).Perm (Blk k3 (grd w g v) 37 :: (L ++ [Blk k6 z3r 37, Blk k5 c.a 27, Blk k4 r.c 23] ++ F)) := by
      have e : L ++ (Blk k6 z3r 37 :: Blk k5 c.a 27 :: Blk k4 r.c 23 :: Blk k3 (grd w g v) 37 :: F) = (L ++ [Blk k6 z3r 37, Blk k5 c.a 27, Blk k4 r.c 23]) ++ Blk k3 (grd w g v) 37 :: F := by simp
      rw [e]; exact List.perm_middle
    exact (s'.perm p).has
  refine ⟨fun h' => h'.has k3 (grd w g v) 37, hk [] _ s4, ?_⟩
  have at_ : ∀ {o : Nat} {u : Value} {K : Value → Prop}, (grd w g v)[o]? = some u → sLdC (fun h' => h'.has k3 (grd w g v) 37) (ptr k3 o) K = K u := fun hv => ldc_at (C := fun h' => h'.has k3 (grd w g v) 37) (h0 := h4) (hk [] _ s4) (fun h' e => by rw [e.at, hv])
  simp only [ev_off, Nat.zero_add]
  rw [at_ (o := 0) rfl, at_ (o := 1) rfl, at_ (o := 2) rfl]
  refine dup hk q.weak.weak.weak.weak s4 (by omega) (fun k8 v' h5 s5 => ?_)
  unfold betonyref06_Grid_Fill_j1
  obtain ⟨ba, b1, b2, b3, b4⟩ := both_area (a := r) ⟨z1, z2⟩ ⟨z3, z4⟩
  have hhas := fun a b => both_has (a := r) (x := a) (y := b) ⟨z1, z2⟩ ⟨z3, z4⟩
  have hT := fun a b => fillR_cell (r := r) (c := c) (x := a) (y := b) z
  have lT : (fillR l w (r.both (allR w g)) c).length = l.length := fillR_len _ _ _ _
  have hz : r.right = false → r.both (allR w g) = ⟨0, 0, 0, 0⟩ := fun hr => by unfold Rc.both; rw [hr, Bool.false_and, if_neg (by decide)]
  have hz2 : r.right = false → fillR l w (r.both (allR w g)) c = l := fun hr => by rw [hz hr]; rfl
  generalize fillR l w (r.both (allR w g)) c = T at H hT lT hz2
  generalize r.both (allR w g) = Q at ba b1 b2 b3 b4 H hhas hT hz
  obtain ⟨W, rfl⟩ : ∃ W : Nat, w = W := ⟨w.toNat, by omega⟩
  obtain ⟨G, rfl⟩ : ∃ G : Nat, g = G := ⟨g.toNat, by omega⟩
  have hl : l.length = W * G := by exact_mod_cast z5
  have hWG : W * G ≤ 262144 := by have : ((W * G : Nat) : Int) ≤ 262144 := by rw [Int.natCast_mul]; omega
                                  omega
  have e00 : cntR Q W 0 0 = 0 := by rw [cntR_zero]; exact Int.mul_zero _
  refine ⟨fun t h' => ∃ b : Nat, b ≤ G ∧ t = (.int .i64 (cntR Q W 0 b), .int .i64 b) ∧ HW.Sep h0 (Blk k8 (grd W G v') 37 :: Sl encCe 4 v' (mixL T l (b * W)) :: Blk k6 z3r 37 :: Blk k5 c.a 27 :: Blk k4 r.c 23 :: Blk k3 (grd W G v) 37 :: F) h', fun t _ => match t.2 with | .int _ k => (G - k).toNat | _ => 0, ⟨0, Nat.zero_le _, by rw [e00]; rfl, by rw [Nat.zero_mul, mixL_zero]; exact s5⟩, ?_⟩
  rintro _ h6 ⟨b, hb, rfl, s6⟩
  simp only []
  unfold betonyref06_Grid_Fill_l2
  have f3 : ∀ {h' : Heap}, Ext h6 h' → ∀ {o : Nat} {u : Value} {K : Value → Prop}, (grd W G v)[o]? = some u → sLd h' (ptr k3 o) K = K u := fun e _ _ _ hv => ((s6.ext' e).b5).ld hv
  rw [ev_off, Nat.zero_add, f3 (u := .int .i64 G) (Ext.refl _) rfl, ev_lt]
  refine and_ext (y := r.right) (fun _ K' HK => by
    rw [s6.b4.ldall (n := 4) rfl]
    exact right04_spec (fun h7 e7 => HK _ e7)) (fun h7 e7 => ?_)
  have s7 := s6.ext' e7
  rw [ev_if]
  by_cases hcond : (decide ((b : Int) < G) && r.right) = true
  · rw [if_pos hcond]
    simp only [Bool.and_eq_true, decide_eq_true_eq] at hcond
    obtain ⟨hbG, hr⟩ := hcond
    have hbG : b < G := by omega
    have hr' := (Rc.right_iff r).1 hr
    refine ⟨fun t h' => ∃ a : Nat, a ≤ W ∧ t = (.int .i64 (cntR Q W a b), .int .i64 a) ∧ HW.Sep h0 (Blk k8 (grd W G v') 37 :: Sl encCe 4 v' (mixL T l (b * W + a)) :: Blk k6 z3r 37 :: Blk k5 c.a 27 :: Blk k4 r.c 23 :: Blk k3 (grd W G v) 37 :: F) h', fun t _ => match t.2 with | .int _ k => (W - k).toNat | _ => 0, ⟨0, Nat.zero_le _, rfl, s7⟩, ?_⟩
    rintro _ h8 ⟨a, ha, rfl, s8⟩
    simp only []
    unfold betonyref06_Grid_Fill_l3
    have g3 : ∀ {h' : Heap}, Ext h8 h' → ∀ {o : Nat} {u : Value} {K : Value → Prop}, (grd W G v)[o]? = some u → sLd h' (ptr k3 o) K = K u := fun e _ _ _ hv => ((s8.ext' e).b5).ld hv
    rw [ev_off, Nat.zero_add, g3 (u := .int .i64 W) (Ext.refl _) rfl, ev_lt, ev_if]
    have cr := cntR_rng (q := Q) (w := W) (a := a) (b := b) (by omega) (by omega) (by omega)
    by_cases haW : a < W
    · rw [if_pos (decide_eq_true (by omega)), s8.b4.ldall (n := 4) rfl]
      have hidx := mul_lt hbG haW
      have hTg : T.getD (b * W + a) ce0 = if Q.has (a : Int) (b : Int) then c else l.getD (b * W + a) ce0 := by
        have := hT a b
        rwa [cell_nat haW hbG, cell_nat haW hbG] at this
      have hh : Q.has (a : Int) (b : Int) ↔ r.has (a : Int) (b : Int) := by
        rw [hhas]
        exact ⟨fun h => h.2.1, fun h => ⟨hr, h, inG_nat haW hbG⟩⟩
      have cc := cntR_col (q := Q) (w := W) (a := a) (b := b)
      unfold betonyref06_Grid_Fill_j4
      refine in04_spec hr' (by omega) (by omega) (fun h9 e9 => ?_)
      have s9 := s8.ext' e9
      rw [ev_if]
      by_cases hrh : r.has (a : Int) (b : Int)
      · rw [if_pos (decide_eq_true hrh)]
        rw [if_pos (hh.2 hrh)] at hTg cc
        have g8 : ∀ {K : Value → Prop}, sLd h9 (ptr k8 2) K = K v' := s9.ld rfl
        rw [ev_off, Nat.zero_add, g8, ev_off, Nat.zero_add, g3 (u := .int .i64 W) e9 rfl, ev_mul]
        have e1 : IntKind.i64.wrap ((b : Int) * (W : Int)) = ((b * W : Nat) : Int) := by rw [Int.natCast_mul, wrap_i64 (by rw [← Int.natCast_mul]; omega) (by rw [← Int.natCast_mul]; omega)]
        rw [e1, ev_add, wrap_i64 (by omega) (by omega), show ((b * W : Nat) : Int) + (a : Int) = ((b * W + a : Nat) : Int) by omega, s9.b3.ldall (n := 4) rfl]
        have ml : (mixL T l (b * W + a)).length = l.length := mixL_len lT
        rw [s9.b1.seq.elt (by omega)]
        refine s9.b1.setn encCe_len encCe_cell (by omega) c (fun h10 s10 => ?_)
        rw [ev_add, wrap_i64 (by omega) (by omega), ev_add, wrap_i64 (by omega) (by omega)]
        refine ⟨⟨a + 1, haW, by rw [cc, Int.natCast_add]; rfl, ?_⟩, by simp only; omega⟩
        have := mixL_step (T := T) (l := l) (i := b * W + a) lT (by omega)
        rw [hTg] at this
        rw [this] at s10
        exact s10.b1
      · rw [if_neg (by simpa using hrh)]
        rw [if_neg (fun h => hrh (hh.1 h))] at hTg cc
        rw [ev_add, wrap_i64 (by omega) (by omega)]
        refine ⟨⟨a + 1, haW, by rw [cc, Int.add_zero, Int.natCast_add]; rfl, ?_⟩, by simp only; omega⟩
        have := mixL_same (T := T) (l := l) (i := b * W + a) lT (by omega) hTg
        rw [this] at s9
        exact s9
    · have : a = W := by omega
      subst this
      rw [if_neg (by simp), ev_add, wrap_i64 (by omega) (by omega)]
      refine ⟨⟨b + 1, hbG, by rw [cntR_row, Int.natCast_add]; rfl, ?_⟩, by simp only; omega⟩
      rw [show (b + 1) * a = b * a + a by rw [Nat.add_mul, Nat.one_mul]]
      exact s8
  · rw [if_neg hcond]
    have fin : mixL T l (b * W) = T ∧ cntR Q W 0 b = Q.area := by
      by_cases hr : r.right = true
      · have : b = G := by simp [hr] at hcond; omega
        subst this
        refine ⟨by rw [Nat.mul_comm, ← hl]; exact mixL_full lT, ?_⟩
        rw [cntR_zero, cn_full b1.1 b3 b1.2, cn_full b2.1 b4 b2.2, ba]
      · have hr : r.right = false := by simpa using hr
        refine ⟨by rw [hz2 hr]; exact List.take_append_drop _ _, ?_⟩
        rw [ba, hz hr, cntR_none]; rfl
    rw [fin.1] at s7
    rw [fin.2, s7.ldall (n := 3) rfl]
    refine s7.b2.stall (cs := grd W G v') rfl rfl (grd_cell s7.b1.seq) (fun h8 s8 => ?_)
    rw [s8.ldall (n := 3) rfl]
    exact H v' h8 (s8.b2.drop1.drop1.drop1.drop1.drop1)
end
end Go.Proofs.Ythhpieidlpjbmaa

end

section
/- Grids: the document's answer: Blit. -/
set_option linter.unusedSimpArgs false
set_option linter.unusedVariables false
namespace Go.Proofs.Ythhpieidlpjbmaa
open Go Go.HW

def blitC (r : Rc) (w g x y w' g' : Int) : Bool := !(r.right && nearB x && nearB y) || ((frR r w g x y).empty || (itR r w g x y w' g').empty)
def blitL (l l' : List Ce) (r : Rc) (w g x y w' g' : Int) : List Ce := if blitC r w g x y w' g' = true then l' else putRows l' w' (itR r w g x y w' g').x (itR r w g x y w' g').y (srow l w ((itR r w g x y w' g').x - x + r.x) ((itR r w g x y w' g').y - y + r.y) (itR r w g x y w' g').w) (itR r w g x y w' g').h.toNat
def blitN (r : Rc) (w g x y w' g' : Int) : Int := if blitC r w g x y w' g' = true then 0 else (itR r w g x y w' g').w * (itR r w g x y w' g').h
theorem blitL_len {l l' : List Ce} {r : Rc} {w g x y w' g' : Int} : (blitL l l' r w g x y w' g').length = l'.length := by
  unfold blitL; split
  · rfl
  · exact putRows_len _ _ _ _ _ _
theorem blitL_ok {l l' : List Ce} {r : Rc} {w g x y w' g' : Int} (z' : szOk w' g' l') : szOk w' g' (blitL l l' r w g x y w' g') := by unfold szOk; rw [blitL_len]; exact z'
theorem it_has {r : Rc} {w g x y w' g' a b : Int} (hw : 1 ≤ w ∧ w ≤ 512) (hg : 1 ≤ g ∧ g ≤ 512) (hw' : 1 ≤ w' ∧ w' ≤ 512) (hg' : 1 ≤ g' ∧ g' ≤ 512) (hin : inG w' g' a b = true) (hr : r.right = true) (hx : nearB x = true) (hy : nearB y = true) : (itR r w g x y w' g').has a b ↔ (r.has (a - x + r.x) (b - y + r.y) ∧ inG w g (a - x + r.x) (b - y + r.y) = true) := by
  have h1 := both_has (a := frR r w g x y) (x := a) (y := b) hw' hg'
  have h2 := both_has (a := r) (x := a - x + r.x) (y := b - y + r.y) hw hg
  obtain ⟨_, b1, b2, b3, b4⟩ := both_area (a := r) hw hg
  obtain ⟨i1, i2⟩ := inG_iff.1 hin
  obtain ⟨r1, r2, r3, r4⟩ := (Rc.right_iff r).1 hr
  have d1 : (frR r w g x y).x = (r.both (allR w g)).x + x - r.x := rfl
  have d2 : (frR r w g x y).y = (r.both (allR w g)).y + y - r.y := rfl
  have d3 : (frR r w g x y).w = (r.both (allR w g)).w := rfl
  have d4 : (frR r w g x y).h = (r.both (allR w g)).h := rfl
  have h3 : (frR r w g x y).has a b ↔ (r.both (allR w g)).has (a - x + r.x) (b - y + r.y) := by unfold Rc.has; rw [d1, d2, d3, d4]; omega
  show ((frR r w g x y).both (allR w' g')).has a b ↔ _
  rw [h1, h3, h2]
  constructor
  · rintro ⟨_, ⟨_, k1, k2⟩, _⟩; exact ⟨k1, k2⟩
  · rintro ⟨k1, k2⟩
    refine ⟨(Rc.right_iff _).2 ?_, ⟨hr, k1, k2⟩, hin⟩
    have k3 := h3.2 (h2.2 ⟨hr, k1, k2⟩)
    unfold Rc.has at k3
    unfold Rc.Ok
    omega
theorem blitC_near {r : Rc} {w g x y w' g' : Int} (hr : r.right = true) (hx : nearB x = true) (hy : nearB y = true) : blitC r w g x y w' g' = (itR r w g x y w' g').empty := by
  unfold blitC
  rw [hr, hx, hy]
  simp only [Bool.and_self, Bool.not_true, Bool.false_or]
  cases he : (itR r w g x y w' g').empty with
  | true => rw [Bool.or_true]
  | false =>
    have := both_in (a := frR r w g x y) (w := w') (g := g') he
    have : (frR r w g x y).empty = false := by
      unfold Rc.empty
      simp only [Bool.or_eq_false_iff, decide_eq_false_iff_not]
      omega
    rw [this]; rfl

section
variable {h0 h : Heap} {F : List HP} {R : Value → Heap → Prop} {v v' : Value} {l l' : List Ce}
theorem rblit_spec {w g w' g' x y : Int} {r : Rc} (q : HW.Rd encCe 4 h0 F v l) (q' : HW.Rd encCe 4 h0 F v' l') (s : HW.Sep h0 F h) (z : szOk w g l) (z' : szOk w' g' l') (H : ∀ u h', HW.Sep h0 (Sl encCe 4 u (blitL l l' r w g x y w' g') :: F) h' → R (.tuple #[.agg (grd w' g' u), .int .i64 (blitN r w g x y w' g')]) h') : betonyref06_Blit_c (.agg (grd w g v)) (.agg (grd w' g' v')) r.v (.int .i64 x) (.int .i64 y) h R := by
  apply betonyref06_Blit_runs
  unfold betonyref06_Blit_S
  have zz := z
  obtain ⟨z1, z2, z3, z4, z5⟩ := zz
  have zz' := z'
  obtain ⟨y1, y2, y3, y4, y5⟩ := zz'
  have m := sz_mul (w := w') (h := g') (y := 0) ⟨y1, y2⟩ y4 ⟨by omega, by omega⟩
  rw [Int.mul_comm g' w'] at m
  refine s.box (c := grd w g v) rfl (fun k5 h1 s1 => ?_)
  refine s1.box (c := grd w' g' v') rfl (fun k6 h2 s2 => ?_)
  refine s2.box (c := r.c) r.cells (fun k7 h3 s3 => ?_)
  refine s3.new (fun k10 h4 s4 => ?_)
  have s4 : HW.Sep h0 (Blk k10 z3r 37 :: Blk k7 r.c 23 :: Blk k6 (grd w' g' v') 37 :: Blk k5 (grd w g v) 37 :: F) h4 := s4
  have hk : ∀ L h', HW.Sep h0 (L ++ (Blk k10 z3r 37 :: Blk k7 r.c 23 :: Blk k6 (grd w' g' v') 37 :: Blk k5 (grd w g v) 37 :: F)) h' → h'.has k6 (grd w' g' v') 37 := fun L h' s' => by
    have p : (L ++ (Blk k10 z3r 37 :: Blk k7 r.c 23 :: Blk k6 (grd w' g' v') 37 :: Blk k5 (grd w g v) 37 :: F)).Perm (Blk k6 (grd w' g' v') 37 :: (L ++ [Blk k10 z3r 37, Blk k7 r.c 23] ++ (Blk k5 (grd w g v) 37 :: F))) := by
      have e : L ++ (Blk k10 z3r 37 :: Blk k7 r.c 23 :: Blk k6 (grd w' g' v') 37 :: Blk k5 (grd w g v) 37 :: F) = (L ++ [Blk k10 z3r 37, Blk k7 r.c 23]) ++ Blk k6 (grd w' g' v') 37 :: (Blk k5 (grd w g v) 37 :: F) := by simp
      rw [e]; exact List.perm_middle
    exact (s'.perm p).has
  refine ⟨fun h' => h'.has k6 (grd w' g' v') 37, hk [] _ s4, ?_⟩
  have at_ : ∀ {o : Nat} {u : Value} {K : Value → Prop}, (grd w' g' v')[o]? = some u → sLdC (fun h' => h'.has k6 (grd w' g' v') 37) (ptr k6 o) K = K u := fun hv => ldc_at (C := fun h' => h'.has k6 (grd w' g' v') 37) (h0 := h4) (hk [] _ s4) (fun h' e => by rw [e.at, hv])
  simp only [ev_off, Nat.zero_add]
  rw [at_ (o := 0) rfl, at_ (o := 1) rfl, at_ (o := 2) rfl]
  refine dup hk q'.weak.weak.weak.weak s4 (by omega) (fun k12 u h5 s5 => ?_)
  unfold betonyref06_Blit_j1
  rw [s5.b3.ldall (n := 4) rfl]
  refine right04_spec (fun h6 e6 => ?_)
  rw [ev_not]
  have s6 := s5.ext' e6
  refine or_ext (y := !(nearB x && nearB y)) (fun _ K' HK => by
    refine build_intro (cs := (⟨x, y, 0, 0⟩ : Rc).c) ⟨rfl, Nat.le_of_ble_eq_true rfl, rfl, Nat.le_of_ble_eq_true rfl, rfl⟩ ?_
    refine right04_spec (r := ⟨x, y, 0, 0⟩) (fun h7 e7 => ?_)
    rw [ev_not]
    have : (⟨x, y, 0, 0⟩ : Rc).right = (nearB x && nearB y) := by
      unfold Rc.right
      simp only
      rw [show nearB 0 = true from by decide]
      simp
    rw [this]
    exact HK _ e7) (fun h7 e7 => ?_)
  have s7 := s6.ext' e7
  rw [ev_if]
  by_cases hcond : (!r.right || !(nearB x && nearB y)) = true
  · rw [if_pos hcond, s7.ldall (n := 3) rfl]
    refine s7.b2.stall (cs := grd w' g' u) rfl rfl (grd_cell s7.b1.seq) (fun h8 s8 => ?_)
    rw [s8.ldall (n := 3) rfl]
    have hc : blitC r w g x y w' g' = true := by
      unfold blitC
      have : (!(r.right && nearB x && nearB y)) = true := by
        cases h1 : r.right <;> cases h2 : nearB x <;> cases h3 : nearB y <;> simp [h1, h2, h3] at hcond ⊢
      rw [this]; rfl
    have e1 : blitL l l' r w g x y w' g' = l' := by unfold blitL; rw [if_pos hc]
    have e2 : blitN r w g x y w' g' = 0 := by unfold blitN; rw [if_pos hc]
    rw [e1, e2] at H
    exact H u h8 (s8.b2.drop1.drop1.drop1.drop1.drop1)
  rw [if_neg hcond]
  have hr : r.right = true := by cases h1 : r.right <;> simp [h1] at hcond ⊢
  have hx : nearB x = true := by cases h1 : nearB x <;> simp [h1] at hcond ⊢
  have hy : nearB y = true := by cases h1 : nearB y <;> simp [h1] at hcond ⊢
  have wx : -1073741824 ≤ x ∧ x ≤ 1073741824 := by simpa [nearB] using hx
  have wy : -1073741824 ≤ y ∧ y ≤ 1073741824 := by simpa [nearB] using hy
  have hr' := (Rc.right_iff r).1 hr
  obtain ⟨r1, r2, r3, r4⟩ := hr'
  have hC := blitC_near (w := w) (g := g) (w' := w') (g' := g') hr hx hy
  have hQ := fun a b hin => it_has (r := r) (w := w) (g := g) (x := x) (y := y) (w' := w') (g' := g') (a := a) (b := b) ⟨z1, z2⟩ ⟨z3, z4⟩ ⟨y1, y2⟩ ⟨y3, y4⟩ hin hr hx hy
  have hT : ∀ a b, cell (blitL l l' r w g x y w' g') w' g' a b = if (itR r w g x y w' g').has a b then cell l w g (a - x + r.x) (b - y + r.y) else cell l' w' g' a b := by
    intro a b
    unfold blitL
    rw [hC]
    cases he : (itR r w g x y w' g').empty with
    | true =>
      have e0 : itR r w g x y w' g' = ⟨0, 0, 0, 0⟩ := both_zero he
      rw [if_pos rfl, e0, if_neg (by unfold Rc.has; simp only; omega)]
    | false => rw [if_neg (by decide)]; exact copy_cell z z' he
  have hN : ∀ W G : Nat, w' = W → g' = G → cntR (itR r w g x y w' g') W 0 G = blitN r w g x y w' g' := by
    intro W G eW eG
    unfold blitN
    rw [hC]
    cases he : (itR r w g x y w' g').empty with
    | true =>
      have e0 : itR r w g x y w' g' = ⟨0, 0, 0, 0⟩ := both_zero he
      rw [if_pos rfl, e0, cntR_none]
    | false =>
      obtain ⟨g1, g2, g3, g4, g5, g6⟩ := geo he
      rw [if_neg (by decide), cntR_zero, cn_full g3.1 (by omega) (by omega), cn_full g4.1 (by omega) (by omega)]
  have lT : (blitL l l' r w g x y w' g').length = l'.length := blitL_len
  generalize blitL l l' r w g x y w' g' = T at H hT lT
  generalize itR r w g x y w' g' = Q at hQ hT hN
  generalize blitN r w g x y w' g' = N at H hN
  clear hC
  obtain ⟨W, rfl⟩ : ∃ W : Nat, w' = W := ⟨w'.toNat, by omega⟩
  obtain ⟨G, rfl⟩ : ∃ G : Nat, g' = G := ⟨g'.toNat, by omega⟩
  have hN := hN W G rfl rfl
  have hl : l'.length = W * G := by exact_mod_cast y5
  have hWG : W * G ≤ 262144 := by
    have : ((W * G : Nat) : Int) ≤ 262144 := by rw [Int.natCast_mul]; omega
    omega
  have e00 : cntR Q W 0 0 = 0 := by rw [cntR_zero]; exact Int.mul_zero _
  refine ⟨fun t h' => ∃ b : Nat, b ≤ G ∧ t = (.int .i64 (cntR Q W 0 b), .int .i64 b) ∧ HW.Sep h0 (Blk k12 (grd W G u) 37 :: Sl encCe 4 u (mixL T l' (b * W)) :: Blk k10 z3r 37 :: Blk k7 r.c 23 :: Blk k6 (grd W G v') 37 :: Blk k5 (grd w g v) 37 :: F) h', fun t _ => match t.2 with | .int _ k => (G - k).toNat | _ => 0, ⟨0, Nat.zero_le _, by rw [e00]; rfl, by rw [Nat.zero_mul, mixL_zero]; exact s7⟩, ?_⟩
  rintro _ h8 ⟨b, hb, rfl, s8⟩
  simp only []
  unfold betonyref06_Blit_l2
  have f6 : ∀ {h' : Heap}, Ext h8 h' → ∀ {o : Nat} {u : Value} {K : Value → Prop}, (grd W G v')[o]? = some u → sLd h' (ptr k6 o) K = K u := fun e _ _ _ hv => ((s8.ext' e).b4).ld hv
  rw [ev_off, Nat.zero_add, f6 (u := .int .i64 G) (Ext.refl _) rfl, ev_lt, ev_if]
  by_cases hbG : b < G
  · rw [if_pos (decide_eq_true (by omega))]
    refine ⟨fun t h' => ∃ a : Nat, a ≤ W ∧ t = (.int .i64 (cntR Q W a b), .int .i64 a) ∧ HW.Sep h0 (Blk k12 (grd W G u) 37 :: Sl encCe 4 u (mixL T l' (b * W + a)) :: Blk k10 z3r 37 :: Blk k7 r.c 23 :: Blk k6 (grd W G v') 37 :: Blk k5 (grd w g v) 37 :: F) h', fun t _ => match t.2 with | .int _ k => (W - k).toNat | _ => 0, ⟨0, Nat.zero_le _, rfl, s8⟩, ?_⟩
    rintro _ h9 ⟨a, ha, rfl, s9⟩
    simp only []
    unfold betonyref06_Blit_l3
    have g6 : ∀ {h' : Heap}, Ext h9 h' → ∀ {o : Nat} {u : Value} {K : Value → Prop}, (grd W G v')[o]? = some u → sLd h' (ptr k6 o) K = K u := fun e _ _ _ hv => ((s9.ext' e).b4).ld hv
    rw [ev_off, Nat.zero_add, g6 (u := .int .i64 W) (Ext.refl _) rfl, ev_lt, ev_if]
    have cr := cntR_rng (q := Q) (w := W) (a := a) (b := b) (by omega) (by omega) (by omega)
    by_cases haW : a < W
    · rw [if_pos (decide_eq_true (by omega))]
      have hidx := mul_lt hbG haW
      have hTg : T.getD (b * W + a) ce0 = if Q.has (a : Int) (b : Int) then cell l w g ((a : Int) - x + r.x) ((b : Int) - y + r.y) else l'.getD (b * W + a) ce0 := by
        have := hT a b
        rwa [cell_nat haW hbG, cell_nat haW hbG] at this
      have hh := hQ a b (inG_nat haW hbG)
      have cc := cntR_col (q := Q) (w := W) (a := a) (b := b)
      have f70 : ∀ {K : Value → Prop}, sLd h9 (ptr k7 0) K = K (.int .i64 r.x) := s9.b3.ld rfl
      have f71 : ∀ {K : Value → Prop}, sLd h9 (ptr k7 1) K = K (.int .i64 r.y) := s9.b3.ld rfl
      simp only [ev_sub, ev_off, Nat.zero_add, f70, f71, ev_add]
      rw [wrap_i64 (x := (a : Int) - x) (by omega) (by omega), wrap_i64 (x := (a : Int) - x + r.x) (by omega) (by omega), wrap_i64 (x := (b : Int) - y) (by omega) (by omega), wrap_i64 (x := (b : Int) - y + r.y) (by omega) (by omega), s9.b3.ldall (n := 4) rfl]
      unfold betonyref06_Blit_j4
      refine in04_spec ⟨r1, r2, r3, r4⟩ (by omega) (by omega) (fun h10 e10 => ?_)
      have s10 := s9.ext' e10
      refine and_ext (y := inG w g ((a : Int) - x + r.x) ((b : Int) - y + r.y)) (fun _ K' HK => by
        rw [s10.b5.ldall (n := 3) rfl]
        exact rin6_spec (fun h11 e11 => HK _ e11)) (fun h11 e11 => ?_)
      have s11 := s10.ext' e11
      rw [ev_if]
      by_cases hp : (decide (r.has ((a : Int) - x + r.x) ((b : Int) - y + r.y)) && inG w g ((a : Int) - x + r.x) ((b : Int) - y + r.y)) = true
      · rw [if_pos hp]
        have hp' := hp
        rw [Bool.and_eq_true, decide_eq_true_eq] at hp'
        rw [if_pos (hh.2 hp')] at hTg cc
        have b12 : h11.has k12 (grd W G u) 37 := s11.has
        have b6 : h11.has k6 (grd W G v') 37 := s11.b4.has
        refine ⟨fun h' => h'.has k12 (grd W G u) 37 ∧ h'.has k6 (grd W G v') 37, ⟨b12, b6⟩, ?_⟩
        have c12 : ∀ {K : Value → Prop}, sLdC (fun h' => h'.has k12 (grd W G u) 37 ∧ h'.has k6 (grd W G v') 37) (ptr k12 2) K = K u := fun {K} => ldc_at (C := fun h' => h'.has k12 (grd W G u) 37 ∧ h'.has k6 (grd W G v') 37) (h0 := h11) ⟨b12, b6⟩ (fun h' e => by rw [e.1.at]; rfl)
        have c6 : ∀ {K : Value → Prop}, sLdC (fun h' => h'.has k12 (grd W G u) 37 ∧ h'.has k6 (grd W G v') 37) (ptr k6 0) K = K (.int .i64 W) := fun {K} => ldc_at (C := fun h' => h'.has k12 (grd W G u) 37 ∧ h'.has k6 (grd W G v') 37) (h0 := h11) ⟨b12, b6⟩ (fun h' e => by rw [e.2.at]; rfl)
        have e1 : IntKind.i64.wrap ((b : Int) * (W : Int)) = ((b * W : Nat) : Int) := by rw [Int.natCast_mul, wrap_i64 (by rw [← Int.natCast_mul]; omega) (by rw [← Int.natCast_mul]; omega)]
        rw [c12, c6, ev_mul, e1, ev_add, wrap_i64 (x := ((b * W : Nat) : Int) + (a : Int)) (by omega) (by omega), show ((b * W : Nat) : Int) + (a : Int) = ((b * W + a : Nat) : Int) by omega, s11.b5.ldall (n := 3) rfl]
        have qg : Seq encCe 4 h11 v l := q [_, _, _, _, _, _] _ s11
        refine rat6_spec qg z (fun h12 e12 => ⟨⟨e12.has b12, e12.has b6⟩, ?_⟩)
        have s12 := s11.ext' e12
        have ml : (mixL T l' (b * W + a)).length = l'.length := mixL_len lT
        rw [s12.b1.seq.elt (by omega)]
        refine s12.b1.setn encCe_len encCe_cell (by omega) _ (fun h13 s13 => ?_)
        rw [wrap_i64 (x := cntR Q W a b + 1) (by omega) (by omega), ev_add, wrap_i64 (x := (a : Int) + 1) (by omega) (by omega)]
        refine ⟨⟨a + 1, haW, by rw [cc, Int.natCast_add]; rfl, ?_⟩, by simp only; omega⟩
        have := mixL_step (T := T) (l := l') (i := b * W + a) lT (by omega)
        rw [hTg] at this
        rw [this] at s13
        exact s13.b1
      · rw [if_neg hp]
        rw [if_neg (fun h => hp (by rw [Bool.and_eq_true, decide_eq_true_eq]; exact hh.1 h))] at hTg cc
        rw [ev_add, wrap_i64 (x := (a : Int) + 1) (by omega) (by omega)]
        refine ⟨⟨a + 1, haW, by rw [cc, Int.add_zero, Int.natCast_add]; rfl, ?_⟩, by simp only; omega⟩
        have := mixL_same (T := T) (l := l') (i := b * W + a) lT (by omega) hTg
        rw [this] at s11
        exact s11
    · have : a = W := by omega
      subst this
      rw [if_neg (by simp), ev_add, wrap_i64 (by omega) (by omega)]
      refine ⟨⟨b + 1, hbG, by rw [cntR_row, Int.natCast_add]; rfl, ?_⟩, by simp only; omega⟩
      rw [show (b + 1) * a = b * a + a by rw [Nat.add_mul, Nat.one_mul]]
      exact s9
  · have : b = G := by omega
    subst this
    rw [if_neg (by simp)]
    have f1 : mixL T l' (b * W) = T := by rw [Nat.mul_comm, ← hl]; exact mixL_full lT
    rw [f1] at s8
    rw [hN, s8.ldall (n := 3) rfl]
    refine s8.b2.stall (cs := grd W b u) rfl rfl (grd_cell s8.b1.seq) (fun h9 s9 => ?_)
    rw [s9.ldall (n := 3) rfl]
    exact H u h9 (s9.b2.drop1.drop1.drop1.drop1.drop1)
end
end Go.Proofs.Ythhpieidlpjbmaa

end

section
/- GridPlays. -/
set_option linter.unusedSimpArgs false
set_option linter.unusedVariables false
namespace Go.Proofs.Ythhpieidlpjbmaa
open Go Go.HW

theorem tup0 {a b : Value} {K : Value → Prop} : sTup (.tuple #[a, b]) 0 K = K a := by rw [ev_tup]; rfl
theorem tup1 {a b : Value} {K : Value → Prop} : sTup (.tuple #[a, b]) 1 K = K b := by rw [ev_tup]; rfl
/-- A part of a block is read. -/
theorem blk_part {h : Heap} {k t o n : Nat} {c : Array Value} {K : Value → Prop} (hb : h.has k c t) (ys rest : List Value) (hp : c.toList.drop o = ys ++ rest) (hn : ys.length = n) : sLdN h (ptr k o) n K = K (.agg ys.toArray) := by
  have hl : h.lay k o ys := fun i u hu => by
    rw [hb.at]
    have : (c.toList.drop o)[i]? = some u := by rw [hp, List.getElem?_append_left (List.getElem?_eq_some_iff.1 hu).1]; exact hu
    rw [List.getElem?_drop] at this
    simpa using this
  rw [hl.ldn hn]
abbrev St (kg ko k11 k12 : Nat) (w g wo go : Int) (v vo vx vy : Value) (L M : List Ce) : List HP := [Blk kg (grd w g v) 68, Sl encCe 4 v L, Blk ko (grd wo go vo) 68, Sl encCe 4 vo M, Blk k11 (grd w g vx) 37, Sl encCe 4 vx L, Blk k12 (grd wo go vy) 37, Sl encCe 4 vy M]
abbrev actC (A : Act) : Array Value := (encAct A).toArray

section
variable {h0 h : Heap} {F : List HP} {R : Value → Heap → Prop}
theorem copyB {kg : Nat} {w g x y : Int} {v : Value} {l : List Ce} {r : Rc} (z : szOk w g l) (s : HW.Sep h0 (Blk kg (grd w g v) 68 :: Sl encCe 4 v l :: F) h)
    (H : ∀ h', HW.Sep h0 (Blk kg (grd w g v) 68 :: Sl encCe 4 v (blitL l l r w g x y w g) :: F) h' → R (.int .i64 (blitN r w g x y w g)) h') : grid_Grid_Copy_c (ptr kg 0) r.v (.int .i64 x) (.int .i64 y) h R := by
  refine copy_spec z s (fun hc h' s' => ?_) (fun hc h' s' => ?_)
  · have := H h'
    unfold blitL blitN at this
    rw [if_pos (show blitC r w g x y w g = true from hc), if_pos (show blitC r w g x y w g = true from hc)] at this
    exact this s'
  · have := H h'
    unfold blitL blitN at this
    have hc' : blitC r w g x y w g = false := hc
    rw [hc', if_neg (by decide), if_neg (by decide)] at this
    exact this s'
theorem blitB {kg kt : Nat} {w g w' g' x y : Int} {v v' : Value} {l l' : List Ce} {r : Rc} (z : szOk w g l) (z' : szOk w' g' l') (s : HW.Sep h0 (Blk kg (grd w g v) 68 :: Sl encCe 4 v l :: Blk kt (grd w' g' v') 68 :: Sl encCe 4 v' l' :: F) h)
    (H : ∀ h', HW.Sep h0 (Blk kg (grd w g v) 68 :: Sl encCe 4 v l :: Blk kt (grd w' g' v') 68 :: Sl encCe 4 v' (blitL l l' r w g x y w' g') :: F) h' → R (.int .i64 (blitN r w g x y w' g')) h') : grid_Grid_Blit_c (ptr kg 0) (ptr kt 0) r.v (.int .i64 x) (.int .i64 y) h R := by
  refine blit2_spec z z' s (fun hc h' s' => ?_) (fun hc h' s' => ?_)
  · have := H h'
    unfold blitL blitN at this
    rw [if_pos (show blitC r w g x y w' g' = true from hc), if_pos (show blitC r w g x y w' g' = true from hc)] at this
    exact this s'
  · have := H h'
    unfold blitL blitN at this
    have hc' : blitC r w g x y w' g' = false := hc
    rw [hc', if_neg (by decide), if_neg (by decide)] at this
    exact this s'
theorem resizeB {kg : Nat} {w g w' g' : Int} {v : Value} {l : List Ce} (z : szOk w g l) (hc : 1 ≤ w' ∧ w' ≤ 512 ∧ 1 ≤ g' ∧ g' ≤ 512) (s : HW.Sep h0 (Blk kg (grd w g v) 68 :: Sl encCe 4 v l :: F) h)
    (H : ∀ kn vn h', szOk w' g' (List.replicate (w' * g').toNat ce0) → HW.Sep h0 (Blk kg (grd w g v) 68 :: Sl encCe 4 v l :: Blk kn (grd w' g' vn) 68 :: Sl encCe 4 vn (blitL l (List.replicate (w' * g').toNat ce0) (allR w g) w g 0 0 w' g') :: F) h' → R (ptr kn 0) h') : grid_Grid_Resize_c (ptr kg 0) (.int .i64 w') (.int .i64 g') h R := by
  apply grid_Grid_Resize_runs
  unfold grid_Grid_Resize_S
  refine new_spec (by unfold i64; omega) (by unfold i64; omega) (fun hc' => (hc' hc).elim) (fun _ kn vn h1 z' s1 => ?_)
  have s1 := s.add s1
  have s1 : HW.Sep h0 (Blk kn (grd w' g' vn) 68 :: Sl encCe 4 vn (List.replicate (w' * g').toNat ce0) :: Blk kg (grd w g v) 68 :: Sl encCe 4 v l :: F) h1 := s1
  have en : ∀ {k : Nat} {K : Value → Prop}, sNeqNil (ptr k 0) K = K (.bool true) := by intro k K; simp only [ptr, ev_neqNil, Option.isNone_some, Bool.not_false]
  rw [en, ev_if, if_pos rfl]
  refine all_spec s1.b2 (fun h2 e2 => ?_)
  unfold grid_Grid_Resize_j1
  exact blitB (r := allR w g) z z' ((s1.ext' e2).b2.b3.b1) (fun h3 s3 => H kn vn h3 z' s3)
variable {kg ko k11 k12 k14 : Nat} {w g wo go : Int} {v vo vx vy : Value} {L M : List Ce} {A : Act} {i : Nat}
theorem j2p {next : Value → Value → Heap → Prop} {h1 : Heap} (wx : i64 A.x) (wy : i64 A.y) (z : szOk w g L) (z' : szOk wo go M) (hi : i < 1000) (s : HW.Sep h (Blk k14 (actC A) 40 :: St kg ko k11 k12 w g wo go v vo vx vy L M) h1)
    (N : ∀ h', HW.Sep h (St kg ko k11 k12 w g wo go v vo vx vy L M) h' → next (ptr kg 0) (.int .i64 ((i + 1 : Nat) : Int)) h') : betonylaw06_GridPlays_j2 R next (ptr ko 0) (ptr k11 0) (ptr k12 0) (.int .i64 i) (ptr k14 0) (ptr kg 0) h1 := by
  unfold betonylaw06_GridPlays_j2
  have b11 : h1.has k11 (grd w g vx) 37 := (s.sel [5] rfl : HW.Sep h [Blk k11 (grd w g vx) 37] h1).has
  have b12 : h1.has k12 (grd wo go vy) 37 := (s.sel [7] rfl : HW.Sep h [Blk k12 (grd wo go vy) 37] h1).has
  have b14 : h1.has k14 (actC A) 40 := s.has
  refine ⟨fun h' => h'.has k11 (grd w g vx) 37 ∧ h'.has k12 (grd wo go vy) 37 ∧ h'.has k14 (actC A) 40, ⟨b11, b12, b14⟩, ?_⟩
  have c11 : ∀ {K : Value → Prop}, sLdNC (fun h' => h'.has k11 (grd w g vx) 37 ∧ h'.has k12 (grd wo go vy) 37 ∧ h'.has k14 (actC A) 40) (ptr k11 0) 3 K = K (.agg (grd w g vx)) := fun {K} => ldnc_all (C := fun h' => h'.has k11 (grd w g vx) 37 ∧ h'.has k12 (grd wo go vy) 37 ∧ h'.has k14 (actC A) 40) (h0 := h1) ⟨b11, b12, b14⟩ rfl (fun _ e => e.1)
  have c12 : ∀ {K : Value → Prop}, sLdNC (fun h' => h'.has k11 (grd w g vx) 37 ∧ h'.has k12 (grd wo go vy) 37 ∧ h'.has k14 (actC A) 40) (ptr k12 0) 3 K = K (.agg (grd wo go vy)) := fun {K} => ldnc_all (C := fun h' => h'.has k11 (grd w g vx) 37 ∧ h'.has k12 (grd wo go vy) 37 ∧ h'.has k14 (actC A) 40) (h0 := h1) ⟨b11, b12, b14⟩ rfl (fun _ e => e.2.1)
  have c14 : ∀ {o : Nat} {u : Value} {K : Value → Prop}, (actC A)[o]? = some u → sLdC (fun h' => h'.has k11 (grd w g vx) 37 ∧ h'.has k12 (grd wo go vy) 37 ∧ h'.has k14 (actC A) 40) (ptr k14 o) K = K u := fun hv => ldc_at (C := fun h' => h'.has k11 (grd w g vx) 37 ∧ h'.has k12 (grd wo go vy) 37 ∧ h'.has k14 (actC A) 40) (h0 := h1) ⟨b11, b12, b14⟩ (fun h' e => by rw [e.2.2.at, hv])
  rw [ev_ldn_all (n := 3) b11 rfl]
  refine shows_spec s.tail (s.sel [6] rfl : HW.Sep h [Sl encCe 4 vx L] h1).seq z (fun h2 e2 => ⟨⟨e2.has b11, e2.has b12, e2.has b14⟩, ?_⟩)
  have s2 := s.ext' e2
  rw [ev_ne]
  refine or_ext (y := false) (fun _ K' HK => ?_) (fun h3 e3 => ?_)
  · rw [c12]
    refine shows_spec (s2.sel [3, 4] rfl : HW.Sep h [Blk ko (grd wo go vo) 68, Sl encCe 4 vo M] h2) (s2.sel [8] rfl : HW.Sep h [Sl encCe 4 vy M] h2).seq z' (fun h3 e3 => ⟨⟨(e2.trans e3).has b11, (e2.trans e3).has b12, (e2.trans e3).has b14⟩, ?_⟩)
    rw [ev_ne]; exact HK _ e3
  have e3' := e2.trans e3
  have s3 := s2.ext' e3
  refine or_ext (y := false) (fun _ K' HK => ?_) (fun h4 e4 => ?_)
  · rw [ev_off, Nat.zero_add, c14 (o := 5) (u := .int .i64 A.x) rfl, ev_off, Nat.zero_add, c14 (o := 6) (u := .int .i64 A.y) rfl]
    refine at_spec wx wy s3.tail z (fun h4 e4 => ⟨⟨(e3'.trans e4).has b11, (e3'.trans e4).has b12, (e3'.trans e4).has b14⟩, ?_⟩)
    have s4 := s3.ext' e4
    rw [c11, ev_off, Nat.zero_add, c14 (o := 5) (u := .int .i64 A.x) rfl, ev_off, Nat.zero_add, c14 (o := 6) (u := .int .i64 A.y) rfl]
    refine rat6_spec (s4.sel [6] rfl : HW.Sep h [Sl encCe 4 vx L] h4).seq z (fun h5 e5 => ?_)
    rw [ne_ce, decide_eq_true rfl]
    exact HK _ (e4.trans e5)
  rw [ev_if, if_neg (by decide), ev_add, wrap_i64 (by omega) (by omega)]
  have := N h4 (s3.ext' e4).tail
  rwa [Int.natCast_add] at this
theorem fld_r {h1 : Heap} {K : Value → Prop} (b14 : h1.has k14 (actC A) 40) : sLdN h1 (ptr k14 1) 4 K = K A.r.v := blk_part b14 A.r.c.toList ([.int .i64 A.x, .int .i64 A.y] ++ encCe A.c) rfl rfl
theorem fld_c {h1 : Heap} {K : Value → Prop} (b14 : h1.has k14 (actC A) 40) : sLdN h1 (ptr k14 7) 4 K = K (.agg A.c.a) := blk_part b14 A.c.a.toList [] rfl rfl
theorem fld_x {h1 : Heap} {K : Value → Prop} (b14 : h1.has k14 (actC A) 40) : sLd h1 (ptr k14 5) K = K (.int .i64 A.x) := ev_ld_has b14 rfl
theorem fld_y {h1 : Heap} {K : Value → Prop} (b14 : h1.has k14 (actC A) 40) : sLd h1 (ptr k14 6) K = K (.int .i64 A.y) := ev_ld_has b14 rfl
theorem size12 {n : Int} {K : Value → Prop} (hn : i64 n) : ∃ m, (1 ≤ m ∧ m ≤ 12) ∧ (sConv .u8 (.int .i64 n) fun x => sConv .i64 x fun x => sRem .i64 x (.int .i64 12) fun x => sAdd .i64 (.int .i64 1) x K) = K (.int .i64 m) := by
  refine ⟨1 + (n % 256) % 12, by omega, ?_⟩
  rw [ev_conv, ev_conv]
  have e : IntKind.u8.wrap n = n % 256 := by unfold IntKind.wrap; simp [IntKind.signed, IntKind.bits]
  rw [e, wrap_i64 (by omega) (by omega), ev_rem (by decide), Int.tmod_eq_emod_of_nonneg (by omega), ev_add, wrap_i64 (by omega) (by omega)]
theorem j3p {next : Value → Value → Heap → Prop} {h1 : Heap} {k21 : Nat} {w' g' : Int} {vz : Value} (wx : i64 A.x) (wy : i64 A.y) (z : szOk w g L) (z' : szOk wo go M) (hi : i < 1000) (hc : 1 ≤ w' ∧ w' ≤ 512 ∧ 1 ≤ g' ∧ g' ≤ 512)
    (s : HW.Sep h (Blk k21 (grd w' g' vz) 37 :: Sl encCe 4 vz (blitL L (List.replicate (w' * g').toNat ce0) (allR w g) w g 0 0 w' g') :: Blk k14 (actC A) 40 :: St kg ko k11 k12 w g wo go v vo vx vy L M) h1)
    (N : ∀ kg' w' g' v' L' M' vx' vy' h', szOk w' g' L' → szOk wo go M' → HW.Sep h (St kg' ko k11 k12 w' g' wo go v' vo vx' vy' L' M') h' → next (ptr kg' 0) (.int .i64 ((i + 1 : Nat) : Int)) h') : betonylaw06_GridPlays_j3 R next (ptr kg 0) (ptr ko 0) (ptr k11 0) (ptr k12 0) (.int .i64 i) (ptr k14 0) (.int .i64 w') (.int .i64 g') (ptr k21 0) h1 := by
  unfold betonylaw06_GridPlays_j3
  rw [s.ldall (n := 3) rfl]
  have s1 : HW.Sep h [Blk k11 (grd w g vx) 37, Sl encCe 4 vz (blitL L (List.replicate (w' * g').toNat ce0) (allR w g) w g 0 0 w' g'), Blk k14 (actC A) 40, Blk kg (grd w g v) 68, Sl encCe 4 v L, Blk ko (grd wo go vo) 68, Sl encCe 4 vo M, Blk k12 (grd wo go vy) 37, Sl encCe 4 vy M] h1 := s.sel [7, 1, 2, 3, 4, 5, 6, 9, 10] rfl
  refine s1.stall (cs := grd w' g' vz) rfl rfl (grd_cell s1.b1.seq) (fun h2 s2 => ?_)
  have s2' : HW.Sep h [Blk kg (grd w g v) 68, Sl encCe 4 v L, Blk k14 (actC A) 40, Blk ko (grd wo go vo) 68, Sl encCe 4 vo M, Blk k11 (grd w' g' vz) 37, Sl encCe 4 vz (blitL L (List.replicate (w' * g').toNat ce0) (allR w g) w g 0 0 w' g'), Blk k12 (grd wo go vy) 37, Sl encCe 4 vy M] h2 := s2.sel [3, 4, 2, 5, 6, 0, 1, 7, 8] rfl
  refine resizeB z hc s2' (fun kn vn h3 zn s3 => ?_)
  have ee : ∀ {k : Nat} {K : Value → Prop}, sEqlNil (ptr k 0) K = K (.bool false) := by intro k K; simp only [ptr, ev_eqlNil, Option.isNone_some]
  rw [ee, ev_if, if_neg (by decide)]
  have s4 : HW.Sep h (Blk k14 (actC A) 40 :: St kn ko k11 k12 w' g' wo go vn vo vz vy (blitL L (List.replicate (w' * g').toNat ce0) (allR w g) w g 0 0 w' g') M) h3 := s3.sel [4, 2, 3, 5, 6, 7, 8, 9, 10] rfl
  exact j2p wx wy (blitL_ok zn) z' hi s4 (fun h5 s5 => N _ _ _ _ _ _ _ _ h5 (blitL_ok zn) z' s5)
theorem body {next : Value → Value → Heap → Prop} {l : List Act} {u : Value} {h1 : Heap} (q : Seq encAct 11 h u l) (hi : i < 1000) (hj : l[i]? = some A) (wx : i64 A.x) (wy : i64 A.y) (ww : i64 A.r.w) (wh : i64 A.r.h) (z : szOk w g L) (z' : szOk wo go M)
    (s : HW.Sep h (St kg ko k11 k12 w g wo go v vo vx vy L M) h1)
    (N : ∀ kg' w' g' v' L' M' vx' vy' h', szOk w' g' L' → szOk wo go M' → HW.Sep h (St kg' ko k11 k12 w' g' wo go v' vo vx' vy' L' M') h' → next (ptr kg' 0) (.int .i64 ((i + 1 : Nat) : Int)) h') : betonylaw06_GridPlays_l1 R u (ptr ko 0) (ptr k11 0) (ptr k12 0) next (ptr kg 0) (.int .i64 i) h1 := by
  unfold betonylaw06_GridPlays_l1
  have hlt := (List.getElem?_eq_some_iff.1 hj).1
  have q1 := q.ext s.ext
  rw [q1.len, ev_lt, ev_if, if_pos (decide_eq_true (by omega))]
  have whole : ∀ {K : Value → Prop}, sIxS u (.int .i64 (i : Int)) 11 (fun p => sLdN h1 p 11 K) = K (.agg (actC A)) := fun {K} => q1.ldn hj rfl .i64
  rw [whole]
  refine s.new (fun k14 h2 s2 => ?_)
  refine s2.stall (cs := actC A) rfl rfl (by intro c hc; simp [actC, encAct, Rc.c, encCe] at hc; rcases hc with rfl | rfl | rfl | rfl | rfl | rfl | rfl | rfl | rfl | rfl | rfl <;> trivial) (fun h3 s3 => ?_)
  have f0 : ∀ {K : Value → Prop}, sLd h3 (ptr k14 0) K = K (.int .i64 A.d) := s3.ld rfl
  rw [ev_off, Nat.zero_add, f0, ev_eq, ev_if]
  have b14 : h3.has k14 (actC A) 40 := s3.has
  have b11 : h3.has k11 (grd w g vx) 37 := (s3.sel [5] rfl : HW.Sep h [Blk k11 (grd w g vx) 37] h3).has
  have b12 : h3.has k12 (grd wo go vy) 37 := (s3.sel [7] rfl : HW.Sep h [Blk k12 (grd wo go vy) 37] h3).has
  by_cases d0 : A.d = 0
  · -- Set
    rw [if_pos (by simpa using d0)]
    refine ⟨fun h' => h'.has k11 (grd w g vx) 37 ∧ h'.has k14 (actC A) 40, ⟨b11, b14⟩, ?_⟩
    have c11 : ∀ {K : Value → Prop}, sLdNC (fun h' => h'.has k11 (grd w g vx) 37 ∧ h'.has k14 (actC A) 40) (ptr k11 0) 3 K = K (.agg (grd w g vx)) := fun {K} => ldnc_all (C := fun h' => h'.has k11 (grd w g vx) 37 ∧ h'.has k14 (actC A) 40) (h0 := h3) ⟨b11, b14⟩ rfl (fun _ e => e.1)
    have c14 : ∀ {o : Nat} {u : Value} {K : Value → Prop}, (actC A)[o]? = some u → sLdC (fun h' => h'.has k11 (grd w g vx) 37 ∧ h'.has k14 (actC A) 40) (ptr k14 o) K = K u := fun hv => ldc_at (C := fun h' => h'.has k11 (grd w g vx) 37 ∧ h'.has k14 (actC A) 40) (h0 := h3) ⟨b11, b14⟩ (fun h' e => by rw [e.2.at, hv])
    simp only [ev_off, Nat.zero_add, fld_x b14, fld_y b14, fld_c b14]
    have s3' : HW.Sep h [Blk kg (grd w g v) 68, Sl encCe 4 v L, Blk k14 (actC A) 40, Blk ko (grd wo go vo) 68, Sl encCe 4 vo M, Blk k11 (grd w g vx) 37, Sl encCe 4 vx L, Blk k12 (grd wo go vy) 37, Sl encCe 4 vy M] h3 := s3.sel [1, 2, 0, 3, 4, 5, 6, 7, 8] rfl
    refine set_spec (c := A.c) wx wy s3' z (fun h4 s4 => ⟨⟨(s4.sel [5] rfl : HW.Sep h [Blk k11 (grd w g vx) 37] h4).has, (s4.sel [2] rfl : HW.Sep h [Blk k14 (actC A) 40] h4).has⟩, ?_⟩)
    rw [c11, c14 (o := 5) (u := .int .i64 A.x) rfl, c14 (o := 6) (u := .int .i64 A.y) rfl]
    refine rin6_spec (fun h5 e5 => ?_)
    have s5 := s4.ext' e5
    have b14' : h5.has k14 (actC A) 40 := (s5.sel [2] rfl : HW.Sep h [Blk k14 (actC A) 40] h5).has
    rw [ev_neqB, beq_self_eq_true, ev_if, if_neg (by decide), (s5.sel [5] rfl : HW.Sep h [Blk k11 (grd w g vx) 37] h5).ldall (n := 3) rfl, fld_x b14', fld_y b14', fld_c b14']
    have s6 : HW.Sep h [Sl encCe 4 vx L, Blk k14 (actC A) 40, Blk kg (grd w g v) 68, Sl encCe 4 v (setC L w g A.x A.y A.c), Blk ko (grd wo go vo) 68, Sl encCe 4 vo M, Blk k11 (grd w g vx) 37, Blk k12 (grd wo go vy) 37, Sl encCe 4 vy M] h5 := s5.sel [6, 2, 0, 1, 3, 4, 5, 7, 8] rfl
    refine rset6_spec Rd.own0 s6 z (fun vx' h7 s7 => ?_)
    have s7' : HW.Sep h [Blk k11 (grd w g vx) 37, Sl encCe 4 vx' (setC L w g A.x A.y A.c), Blk k14 (actC A) 40, Blk kg (grd w g v) 68, Sl encCe 4 v (setC L w g A.x A.y A.c), Blk ko (grd wo go vo) 68, Sl encCe 4 vo M, Blk k12 (grd wo go vy) 37, Sl encCe 4 vy M] h7 := s7.sel [7, 0, 2, 3, 4, 5, 6, 8, 9] rfl
    refine s7'.stall (cs := grd w g vx') rfl rfl (grd_cell s7'.b1.seq) (fun h8 s8 => ?_)
    have z2 : szOk w g (setC L w g A.x A.y A.c) := by unfold szOk; rw [setC_len]; exact z
    have s8' : HW.Sep h (Blk k14 (actC A) 40 :: St kg ko k11 k12 w g wo go v vo vx' vy (setC L w g A.x A.y A.c) M) h8 := s8.sel [2, 3, 4, 5, 6, 0, 1, 7, 8] rfl
    exact j2p wx wy z2 z' hi s8' (fun h9 s9 => N _ _ _ _ _ _ _ _ h9 z2 z' s9)
  rw [if_neg (by simpa using d0), ev_eq, ev_if]
  by_cases d1 : A.d = 1
  · -- Fill
    rw [if_pos (by simpa using d1)]
    simp only [ev_off, Nat.zero_add]
    rw [ev_ldn_all (n := 3) b11 rfl, fld_r b14, fld_c b14]
    refine rfill_spec (r := A.r) (c := A.c) (q := (Rd.own0 (F := [Blk k14 (actC A) 40, Blk kg (grd w g v) 68, Sl encCe 4 v L, Blk ko (grd wo go vo) 68, Sl encCe 4 vo M, Blk k11 (grd w g vx) 37, Blk k12 (grd wo go vy) 37, Sl encCe 4 vy M]))) (s3.sel [6, 0, 1, 2, 3, 4, 5, 7, 8] rfl) z (fun vz h4 s4 => ?_)
    rw [tup0, tup1]
    refine s4.new (fun k15 h5 s5 => ?_)
    refine s5.stall (cs := grd w g vz) rfl rfl (grd_cell s4.seq) (fun h6 s6 => ?_)
    rw [s6.ldall (n := 3) rfl]
    have zf : szOk w g (fillR L w (A.r.both (allR w g)) A.c) := fillR_ok z
    have s6' : HW.Sep h [Blk k11 (grd w g vx) 37, Sl encCe 4 vz (fillR L w (A.r.both (allR w g)) A.c), Blk k14 (actC A) 40, Blk kg (grd w g v) 68, Sl encCe 4 v L, Blk ko (grd wo go vo) 68, Sl encCe 4 vo M, Blk k12 (grd wo go vy) 37, Sl encCe 4 vy M] h6 := s6.sel [8, 1, 3, 4, 5, 6, 7, 9, 10] rfl
    refine s6'.stall (cs := grd w g vz) rfl rfl (grd_cell s6'.b1.seq) (fun h7 s7 => ?_)
    have b14' : h7.has k14 (actC A) 40 := (s7.sel [2] rfl : HW.Sep h [Blk k14 (actC A) 40] h7).has
    rw [fld_r b14', fld_c b14']
    have s7' : HW.Sep h [Blk kg (grd w g v) 68, Sl encCe 4 v L, Blk k14 (actC A) 40, Blk ko (grd wo go vo) 68, Sl encCe 4 vo M, Blk k11 (grd w g vz) 37, Sl encCe 4 vz (fillR L w (A.r.both (allR w g)) A.c), Blk k12 (grd wo go vy) 37, Sl encCe 4 vy M] h7 := s7.sel [3, 4, 2, 5, 6, 0, 1, 7, 8] rfl
    refine fill_spec (r := A.r) (c := A.c) z s7' (fun h8 s8 => ?_)
    rw [ev_ne, bne_self_eq_false, ev_if, if_neg (by decide)]
    have s8' : HW.Sep h (Blk k14 (actC A) 40 :: St kg ko k11 k12 w g wo go v vo vz vy (fillR L w (A.r.both (allR w g)) A.c) M) h8 := s8.sel [2, 0, 1, 3, 4, 5, 6, 7, 8] rfl
    exact j2p wx wy zf z' hi s8' (fun h9 s9 => N _ _ _ _ _ _ _ _ h9 zf z' s9)
  rw [if_neg (by simpa using d1), ev_eq, ev_if]
  by_cases d2 : A.d = 2
  · -- Copy
    rw [if_pos (by simpa using d2)]
    simp only [ev_off, Nat.zero_add]
    rw [ev_ldn_all (n := 3) b11 rfl, ev_ldn_all (n := 3) b11 rfl, fld_r b14, fld_x b14, fld_y b14]
    have rd : HW.Rd encCe 4 h [Sl encCe 4 vx L, Blk k14 (actC A) 40, Blk kg (grd w g v) 68, Sl encCe 4 v L, Blk ko (grd wo go vo) 68, Sl encCe 4 vo M, Blk k11 (grd w g vx) 37, Blk k12 (grd wo go vy) 37, Sl encCe 4 vy M] vx L := Rd.own0
    refine rblit_spec (r := A.r) rd rd (s3.sel [6, 0, 1, 2, 3, 4, 5, 7, 8] rfl) z z (fun vz h4 s4 => ?_)
    rw [tup0, tup1]
    refine s4.new (fun k15 h5 s5 => ?_)
    refine s5.stall (cs := grd w g vz) rfl rfl (grd_cell s4.seq) (fun h6 s6 => ?_)
    rw [s6.ldall (n := 3) rfl]
    have zf : szOk w g (blitL L L A.r w g A.x A.y w g) := blitL_ok z
    have s6' : HW.Sep h [Blk k11 (grd w g vx) 37, Sl encCe 4 vz (blitL L L A.r w g A.x A.y w g), Blk k14 (actC A) 40, Blk kg (grd w g v) 68, Sl encCe 4 v L, Blk ko (grd wo go vo) 68, Sl encCe 4 vo M, Blk k12 (grd wo go vy) 37, Sl encCe 4 vy M] h6 := s6.sel [8, 1, 3, 4, 5, 6, 7, 9, 10] rfl
    refine s6'.stall (cs := grd w g vz) rfl rfl (grd_cell s6'.b1.seq) (fun h7 s7 => ?_)
    have b14' : h7.has k14 (actC A) 40 := (s7.sel [2] rfl : HW.Sep h [Blk k14 (actC A) 40] h7).has
    rw [fld_r b14', fld_x b14', fld_y b14']
    have s7' : HW.Sep h [Blk kg (grd w g v) 68, Sl encCe 4 v L, Blk k14 (actC A) 40, Blk ko (grd wo go vo) 68, Sl encCe 4 vo M, Blk k11 (grd w g vz) 37, Sl encCe 4 vz (blitL L L A.r w g A.x A.y w g), Blk k12 (grd wo go vy) 37, Sl encCe 4 vy M] h7 := s7.sel [3, 4, 2, 5, 6, 0, 1, 7, 8] rfl
    refine copyB (r := A.r) z s7' (fun h8 s8 => ?_)
    rw [ev_ne, bne_self_eq_false, ev_if, if_neg (by decide)]
    have s8' : HW.Sep h (Blk k14 (actC A) 40 :: St kg ko k11 k12 w g wo go v vo vz vy (blitL L L A.r w g A.x A.y w g) M) h8 := s8.sel [2, 0, 1, 3, 4, 5, 6, 7, 8] rfl
    exact j2p wx wy zf z' hi s8' (fun h9 s9 => N _ _ _ _ _ _ _ _ h9 zf z' s9)
  rw [if_neg (by simpa using d2), ev_eq, ev_if]
  by_cases d3 : A.d = 3
  · -- Resize
    rw [if_pos (by simpa using d3)]
    have f3 : ∀ {K : Value → Prop}, sLd h3 (ptr k14 3) K = K (.int .i64 A.r.w) := ev_ld_has b14 rfl
    have f4 : ∀ {K : Value → Prop}, sLd h3 (ptr k14 4) K = K (.int .i64 A.r.h) := ev_ld_has b14 rfl
    simp only [ev_off, Nat.zero_add, Nat.reduceAdd, f3, f4]
    obtain ⟨w', hw', ew⟩ := size12 ww (K := fun x145 => _)
    rw [ew]
    clear ew
    obtain ⟨g', hg', eg⟩ := size12 wh (K := fun x152 => _)
    rw [eg]
    clear eg
    have hc : 1 ≤ w' ∧ w' ≤ 512 ∧ 1 ≤ g' ∧ g' ≤ 512 := by omega
    refine ⟨fun h' => h'.has k11 (grd w g vx) 37, b11, ?_⟩
    have c11 : ∀ {K : Value → Prop}, sLdNC (fun h' => h'.has k11 (grd w g vx) 37) (ptr k11 0) 3 K = K (.agg (grd w g vx)) := fun {K} => ldnc_all (C := fun h' => h'.has k11 (grd w g vx) 37) (h0 := h3) b11 rfl (fun _ e => e)
    have c11o : ∀ {o : Nat} {u : Value} {K : Value → Prop}, (grd w g vx)[o]? = some u → sLdC (fun h' => h'.has k11 (grd w g vx) 37) (ptr k11 o) K = K u := fun hv => ldc_at (C := fun h' => h'.has k11 (grd w g vx) 37) (h0 := h3) b11 (fun h' e => by rw [e.at, hv])
    rw [c11, c11o (o := 0) (u := .int .i64 w) rfl, c11o (o := 1) (u := .int .i64 g) rfl]
    refine build_intro (cs := (allR w g).c) ⟨rfl, Nat.le_of_ble_eq_true rfl, rfl, Nat.le_of_ble_eq_true rfl, rfl⟩ ?_
    have rd1 : ∀ (vn : Value) (n : List Ce) (P : List HP), HW.Rd encCe 4 h (Sl encCe 4 vn n :: (P ++ (Blk k14 (actC A) 40 :: St kg ko k11 k12 w g wo go v vo vx vy L M))) vx L := fun vn n P L' h' s' => by
      have p : (L' ++ (Sl encCe 4 vn n :: (P ++ (Blk k14 (actC A) 40 :: St kg ko k11 k12 w g wo go v vo vx vy L M)))).Perm (Sl encCe 4 vx L :: (L' ++ (Sl encCe 4 vn n :: (P ++ [Blk k14 (actC A) 40, Blk kg (grd w g v) 68, Sl encCe 4 v L, Blk ko (grd wo go vo) 68, Sl encCe 4 vo M, Blk k11 (grd w g vx) 37, Blk k12 (grd wo go vy) 37, Sl encCe 4 vy M])))) := by
        have e : L' ++ (Sl encCe 4 vn n :: (P ++ (Blk k14 (actC A) 40 :: St kg ko k11 k12 w g wo go v vo vx vy L M))) = (L' ++ (Sl encCe 4 vn n :: (P ++ [Blk k14 (actC A) 40, Blk kg (grd w g v) 68, Sl encCe 4 v L, Blk ko (grd wo go vo) 68, Sl encCe 4 vo M, Blk k11 (grd w g vx) 37]))) ++ Sl encCe 4 vx L :: [Blk k12 (grd wo go vy) 37, Sl encCe 4 vy M] := by simp
        have e2 : L' ++ (Sl encCe 4 vn n :: (P ++ [Blk k14 (actC A) 40, Blk kg (grd w g v) 68, Sl encCe 4 v L, Blk ko (grd wo go vo) 68, Sl encCe 4 vo M, Blk k11 (grd w g vx) 37, Blk k12 (grd wo go vy) 37, Sl encCe 4 vy M])) = (L' ++ (Sl encCe 4 vn n :: (P ++ [Blk k14 (actC A) 40, Blk kg (grd w g v) 68, Sl encCe 4 v L, Blk ko (grd wo go vo) 68, Sl encCe 4 vo M, Blk k11 (grd w g vx) 37]))) ++ [Blk k12 (grd wo go vy) 37, Sl encCe 4 vy M] := by simp
        rw [e, e2]; exact List.perm_middle
      exact (s'.perm p).seq
    refine ⟨?_, ?_⟩
    · refine rnew6_spec hc (fun vn h4 zn s4 => ⟨s4.ext.has b11, ?_⟩)
      have s4 := s3.add s4
      have s4 : HW.Sep h (Sl encCe 4 vn (List.replicate (w' * g').toNat ce0) :: Blk k14 (actC A) 40 :: St kg ko k11 k12 w g wo go v vo vx vy L M) h4 := s4
      refine ⟨?_, ?_⟩
      · refine rblit_spec (r := allR w g) (rd1 vn _ []) Rd.own0 s4 z zn (fun vz h5 s5 => ?_)
        rw [tup0, tup1]
        refine s5.new (fun k21 h6 s6 => ⟨(s6.sel [8] rfl : HW.Sep h [Blk k11 (grd w g vx) 37] h6).has, ?_⟩)
        refine s6.stall (cs := grd w' g' vz) rfl rfl (grd_cell s5.seq) (fun h7 s7 => ?_)
        have s7' : HW.Sep h (Blk k21 (grd w' g' vz) 37 :: Sl encCe 4 vz (blitL L (List.replicate (w' * g').toNat ce0) (allR w g) w g 0 0 w' g') :: Blk k14 (actC A) 40 :: St kg ko k11 k12 w g wo go v vo vx vy L M) h7 := s7.sel [0, 1, 3, 4, 5, 6, 7, 8, 9, 10, 11] rfl
        exact j3p wx wy z z' hi hc s7' N
      · refine s4.new (fun k21 h5 s5 => ⟨(s5.sel [7] rfl : HW.Sep h [Blk k11 (grd w g vx) 37] h5).has, ?_⟩)
        have s5' : HW.Sep h (Sl encCe 4 vn (List.replicate (w' * g').toNat ce0) :: ([Blk k21 z3r 37] ++ (Blk k14 (actC A) 40 :: St kg ko k11 k12 w g wo go v vo vx vy L M))) h5 := s5.b1
        refine rblit_spec (r := allR w g) (rd1 vn _ [Blk k21 z3r 37]) Rd.own0 s5' z zn (fun vz h6 s6 => ?_)
        rw [tup0, tup1]
        have s6' : HW.Sep h (Blk k21 z3r 37 :: Sl encCe 4 vz (blitL L (List.replicate (w' * g').toNat ce0) (allR w g) w g 0 0 w' g') :: Blk k14 (actC A) 40 :: St kg ko k11 k12 w g wo go v vo vx vy L M) h6 := s6.sel [2, 0, 3, 4, 5, 6, 7, 8, 9, 10, 11] rfl
        refine s6'.stall (cs := grd w' g' vz) rfl rfl (grd_cell s6'.b1.seq) (fun h7 s7 => ?_)
        exact j3p wx wy z z' hi hc s7 N
    · refine s3.new (fun k21 h4 s4 => ⟨(s4.sel [6] rfl : HW.Sep h [Blk k11 (grd w g vx) 37] h4).has, ?_⟩)
      refine rnew6_spec hc (fun vn h5 zn s5 => ⟨s5.ext.has (s4.sel [6] rfl : HW.Sep h [Blk k11 (grd w g vx) 37] h4).has, ?_⟩)
      have s5 := s4.add s5
      have s5' : HW.Sep h (Sl encCe 4 vn (List.replicate (w' * g').toNat ce0) :: ([Blk k21 z3r 37] ++ (Blk k14 (actC A) 40 :: St kg ko k11 k12 w g wo go v vo vx vy L M))) h5 := s5
      refine rblit_spec (r := allR w g) (rd1 vn _ [Blk k21 z3r 37]) Rd.own0 s5' z zn (fun vz h6 s6 => ?_)
      rw [tup0, tup1]
      have s6' : HW.Sep h (Blk k21 z3r 37 :: Sl encCe 4 vz (blitL L (List.replicate (w' * g').toNat ce0) (allR w g) w g 0 0 w' g') :: Blk k14 (actC A) 40 :: St kg ko k11 k12 w g wo go v vo vx vy L M) h6 := s6.sel [2, 0, 3, 4, 5, 6, 7, 8, 9, 10, 11] rfl
      refine s6'.stall (cs := grd w' g' vz) rfl rfl (grd_cell s6'.b1.seq) (fun h7 s7 => ?_)
      exact j3p wx wy z z' hi hc s7 N
  rw [if_neg (by simpa using d3), ev_eq, ev_if]
  by_cases d4 : A.d = 4
  · -- Blit from the other one
    rw [if_pos (by simpa using d4)]
    simp only [ev_off, Nat.zero_add]
    rw [ev_ldn_all (n := 3) b12 rfl, ev_ldn_all (n := 3) b11 rfl, fld_r b14, fld_x b14, fld_y b14]
    have rdy : HW.Rd encCe 4 h [Blk k14 (actC A) 40, Blk kg (grd w g v) 68, Sl encCe 4 v L, Blk ko (grd wo go vo) 68, Sl encCe 4 vo M, Blk k11 (grd w g vx) 37, Sl encCe 4 vx L, Blk k12 (grd wo go vy) 37, Sl encCe 4 vy M] vy M := Rd.own0.weak.weak.weak.weak.weak.weak.weak.weak
    have rdx : HW.Rd encCe 4 h [Blk k14 (actC A) 40, Blk kg (grd w g v) 68, Sl encCe 4 v L, Blk ko (grd wo go vo) 68, Sl encCe 4 vo M, Blk k11 (grd w g vx) 37, Sl encCe 4 vx L, Blk k12 (grd wo go vy) 37, Sl encCe 4 vy M] vx L := Rd.own0.weak.weak.weak.weak.weak.weak
    refine rblit_spec (r := A.r) rdy rdx s3 z' z (fun vz h4 s4 => ?_)
    rw [tup0, tup1]
    refine s4.new (fun k23 h5 s5 => ?_)
    refine s5.stall (cs := grd w g vz) rfl rfl (grd_cell s4.seq) (fun h6 s6 => ?_)
    have s6' : HW.Sep h [Blk ko (grd wo go vo) 68, Sl encCe 4 vo M, Blk k23 (grd w g vz) 37, Blk k14 (actC A) 40, Blk kg (grd w g v) 68, Sl encCe 4 v L, Blk k11 (grd w g vx) 37, Sl encCe 4 vx L, Blk k12 (grd wo go vy) 37, Sl encCe 4 vy M] h6 := s6.sel [5, 6, 0, 2, 3, 4, 7, 8, 9, 10] rfl
    have b14a : h6.has k14 (actC A) 40 := (s6'.sel [3] rfl : HW.Sep h [Blk k14 (actC A) 40] h6).has
    rw [fld_y b14a, fld_x b14a, fld_c b14a]
    refine set_spec (c := A.c) wy wx s6' z' (fun h7 s7 => ?_)
    have zm : szOk wo go (setC M wo go A.y A.x A.c) := by unfold szOk; rw [setC_len]; exact z'
    have b14b : h7.has k14 (actC A) 40 := (s7.sel [3] rfl : HW.Sep h [Blk k14 (actC A) 40] h7).has
    rw [(s7.sel [8] rfl : HW.Sep h [Blk k12 (grd wo go vy) 37] h7).ldall (n := 3) rfl, fld_y b14b, fld_x b14b, fld_c b14b]
    have s7' : HW.Sep h [Sl encCe 4 vy M, Blk ko (grd wo go vo) 68, Sl encCe 4 vo (setC M wo go A.y A.x A.c), Blk k23 (grd w g vz) 37, Blk k14 (actC A) 40, Blk kg (grd w g v) 68, Sl encCe 4 v L, Blk k11 (grd w g vx) 37, Sl encCe 4 vx L, Blk k12 (grd wo go vy) 37] h7 := s7.sel [9, 0, 1, 2, 3, 4, 5, 6, 7, 8] rfl
    refine rset6_spec Rd.own0 s7' z' (fun vy' h8 s8 => ?_)
    have s8' : HW.Sep h [Blk k12 (grd wo go vy) 37, Sl encCe 4 vy' (setC M wo go A.y A.x A.c), Blk ko (grd wo go vo) 68, Sl encCe 4 vo (setC M wo go A.y A.x A.c), Blk k23 (grd w g vz) 37, Blk k14 (actC A) 40, Blk kg (grd w g v) 68, Sl encCe 4 v L, Blk k11 (grd w g vx) 37, Sl encCe 4 vx L] h8 := s8.sel [10, 0, 2, 3, 4, 5, 6, 7, 8, 9] rfl
    refine s8'.stall (cs := grd wo go vy') rfl rfl (grd_cell s8'.b1.seq) (fun h9 s9 => ?_)
    have b14c : h9.has k14 (actC A) 40 := (s9.sel [5] rfl : HW.Sep h [Blk k14 (actC A) 40] h9).has
    rw [s9.ldall (n := 3) rfl, (s9.sel [8] rfl : HW.Sep h [Blk k11 (grd w g vx) 37] h9).ldall (n := 3) rfl, fld_r b14c, fld_x b14c, fld_y b14c]
    have rdy : HW.Rd encCe 4 h [Blk k12 (grd wo go vy') 37, Sl encCe 4 vy' (setC M wo go A.y A.x A.c), Blk ko (grd wo go vo) 68, Sl encCe 4 vo (setC M wo go A.y A.x A.c), Blk k23 (grd w g vz) 37, Blk k14 (actC A) 40, Blk kg (grd w g v) 68, Sl encCe 4 v L, Blk k11 (grd w g vx) 37, Sl encCe 4 vx L] vy' (setC M wo go A.y A.x A.c) := Rd.own1
    have rdx : HW.Rd encCe 4 h [Blk k12 (grd wo go vy') 37, Sl encCe 4 vy' (setC M wo go A.y A.x A.c), Blk ko (grd wo go vo) 68, Sl encCe 4 vo (setC M wo go A.y A.x A.c), Blk k23 (grd w g vz) 37, Blk k14 (actC A) 40, Blk kg (grd w g v) 68, Sl encCe 4 v L, Blk k11 (grd w g vx) 37, Sl encCe 4 vx L] vx L := Rd.own0.weak.weak.weak.weak.weak.weak.weak.weak.weak
    refine rblit_spec (r := A.r) rdy rdx s9 zm z (fun vz2 h10 s10 => ?_)
    rw [tup0, tup1]
    have zb : szOk w g (blitL (setC M wo go A.y A.x A.c) L A.r wo go A.x A.y w g) := blitL_ok z
    have s10' : HW.Sep h [Blk k23 (grd w g vz) 37, Sl encCe 4 vz2 (blitL (setC M wo go A.y A.x A.c) L A.r wo go A.x A.y w g), Blk k12 (grd wo go vy') 37, Sl encCe 4 vy' (setC M wo go A.y A.x A.c), Blk ko (grd wo go vo) 68, Sl encCe 4 vo (setC M wo go A.y A.x A.c), Blk k14 (actC A) 40, Blk kg (grd w g v) 68, Sl encCe 4 v L, Blk k11 (grd w g vx) 37] h10 := s10.sel [5, 0, 1, 2, 3, 4, 6, 7, 8, 9] rfl
    refine s10'.stall (cs := grd w g vz2) rfl rfl (grd_cell s10'.b1.seq) (fun h11 s11 => ?_)
    rw [s11.ldall (n := 3) rfl]
    have s11' : HW.Sep h [Blk k11 (grd w g vx) 37, Sl encCe 4 vz2 (blitL (setC M wo go A.y A.x A.c) L A.r wo go A.x A.y w g), Blk k12 (grd wo go vy') 37, Sl encCe 4 vy' (setC M wo go A.y A.x A.c), Blk ko (grd wo go vo) 68, Sl encCe 4 vo (setC M wo go A.y A.x A.c), Blk k14 (actC A) 40, Blk kg (grd w g v) 68, Sl encCe 4 v L] h11 := s11.sel [9, 1, 2, 3, 4, 5, 6, 7, 8] rfl
    refine s11'.stall (cs := grd w g vz2) rfl rfl (grd_cell s11'.b1.seq) (fun h12 s12 => ?_)
    have b14d : h12.has k14 (actC A) 40 := (s12.sel [6] rfl : HW.Sep h [Blk k14 (actC A) 40] h12).has
    rw [fld_r b14d, fld_x b14d, fld_y b14d]
    have s12' : HW.Sep h [Blk ko (grd wo go vo) 68, Sl encCe 4 vo (setC M wo go A.y A.x A.c), Blk kg (grd w g v) 68, Sl encCe 4 v L, Blk k14 (actC A) 40, Blk k11 (grd w g vz2) 37, Sl encCe 4 vz2 (blitL (setC M wo go A.y A.x A.c) L A.r wo go A.x A.y w g), Blk k12 (grd wo go vy') 37, Sl encCe 4 vy' (setC M wo go A.y A.x A.c)] h12 := s12.sel [4, 5, 7, 8, 6, 0, 1, 2, 3] rfl
    refine blitB (r := A.r) zm z s12' (fun h13 s13 => ?_)
    rw [ev_ne, bne_self_eq_false, ev_if, if_neg (by decide)]
    have s13' : HW.Sep h (Blk k14 (actC A) 40 :: St kg ko k11 k12 w g wo go v vo vz2 vy' (blitL (setC M wo go A.y A.x A.c) L A.r wo go A.x A.y w g) (setC M wo go A.y A.x A.c)) h13 := s13.sel [4, 2, 3, 0, 1, 5, 6, 7, 8] rfl
    exact j2p wx wy zb zm hi s13' (fun h14 s14 => N _ _ _ _ _ _ _ _ h14 zb zm s14)
  rw [if_neg (by simpa using d4)]
  exact j2p wx wy z z' hi s3 (fun h9 s9 => N _ _ _ _ _ _ _ _ h9 z z' s9)
theorem gplays_law {l : List Act} {u : Value} {a b : Int} (wa : 0 ≤ a ∧ a < 256) (wb : 0 ≤ b ∧ b < 256) (q : Seq encAct 11 h u l) (hg : ∀ A ∈ l, (i64 A.x ∧ i64 A.y) ∧ i64 A.r.w ∧ i64 A.r.h) (H : ∀ h', Ext h h' → R (.bool true) h') : betonylaw06_GridPlays_c (.int .u8 a) (.int .u8 b) u h R := by
  apply betonylaw06_GridPlays_runs
  unfold betonylaw06_GridPlays_S
  rw [q.len, ev_gt, ev_if]
  split
  · exact awake06 H
  rename_i h40
  have h40 : l.length ≤ 40 := by simp at h40; omega
  have cv : ∀ {n : Int} {K : Value → Prop}, 0 ≤ n ∧ n < 256 → (sConv .i64 (.int .u8 n) fun x => sRem .i64 x (.int .i64 12) fun x => sAdd .i64 (.int .i64 1) x K) = K (.int .i64 (1 + n % 12)) := fun {n K} hn => by rw [ev_conv, wrap_i64 (by omega) (by omega), ev_rem (by decide), Int.tmod_eq_emod_of_nonneg hn.1, ev_add, wrap_i64 (by omega) (by omega)]
  rw [cv wa, cv wb]
  obtain ⟨W, hW⟩ : ∃ W, 1 + a % 12 = W := ⟨_, rfl⟩
  obtain ⟨G, hG⟩ : ∃ G, 1 + b % 12 = G := ⟨_, rfl⟩
  rw [hW, hG]
  have hW' : 1 ≤ W ∧ W ≤ 12 := by omega
  have hG' : 1 ≤ G ∧ G ≤ 12 := by omega
  refine new_spec (by unfold i64; omega) (by unfold i64; omega) (fun hc' => (hc' (by omega)).elim) (fun _ kg v h1 z1 s1 => ?_)
  refine new_spec (by unfold i64; omega) (by unfold i64; omega) (fun hc' => (hc' (by omega)).elim) (fun _ ko vo h2 z2 s2 => ?_)
  have s2 := s1.add s2
  have ee : ∀ {k : Nat} {K : Value → Prop}, sEqlNil (ptr k 0) K = K (.bool false) := by intro k K; simp only [ptr, ev_eqlNil, Option.isNone_some]
  simp only [ee, ev_or_p, ev_if]
  rw [if_neg (by decide)]
  refine rnew6_spec (by omega) (fun vx h3 _ s3 => ?_)
  have s3 := s2.add s3
  refine rnew6_spec (by omega) (fun vy h4 _ s4 => ?_)
  have s4 := s3.add s4
  have s4 : HW.Sep h [Sl encCe 4 vy (List.replicate (G * W).toNat ce0), Sl encCe 4 vx (List.replicate (W * G).toNat ce0), Blk ko (grd G W vo) 68, Sl encCe 4 vo (List.replicate (G * W).toNat ce0), Blk kg (grd W G v) 68, Sl encCe 4 v (List.replicate (W * G).toNat ce0)] h4 := s4
  refine s4.new (fun k11 h5 s5 => ?_)
  refine s5.new (fun k12 h6 s6 => ?_)
  refine s6.b1.stall (cs := grd W G vx) rfl rfl (grd_cell (s6.sel [3] rfl : HW.Sep h [Sl encCe 4 vx (List.replicate (W * G).toNat ce0)] h6).seq) (fun h7 s7 => ?_)
  refine s7.b1.stall (cs := grd G W vy) rfl rfl (grd_cell (s7.sel [2] rfl : HW.Sep h [Sl encCe 4 vy (List.replicate (G * W).toNat ce0)] h7).seq) (fun h8 s8 => ?_)
  generalize List.replicate (W * G).toNat ce0 = L0 at z1 s8
  generalize List.replicate (G * W).toNat ce0 = M0 at z2 s8
  refine ⟨fun t h' => ∃ (i : Nat) (kg : Nat) (w g : Int) (v : Value) (L M : List Ce) (vx vy : Value), i ≤ l.length ∧ szOk w g L ∧ szOk G W M ∧ t = (ptr kg 0, .int .i64 i) ∧ HW.Sep h (St kg ko k11 k12 w g G W v vo vx vy L M) h', fun t _ => match t.2 with | .int _ k => (l.length - k).toNat | _ => 0, ⟨0, kg, W, G, v, L0, M0, vx, vy, Nat.zero_le _, z1, z2, rfl, s8.sel [6, 7, 4, 5, 1, 3, 0, 2] rfl⟩, ?_⟩
  rintro _ h9 ⟨i, kg', w, g, v', L, M, vx', vy', hi, z, z', rfl, s9⟩
  simp only []
  by_cases hlt : i < l.length
  · have hj : l[i]? = some l[i] := List.getElem?_eq_getElem hlt
    have hm := hg l[i] (List.getElem_mem hlt)
    generalize l[i] = A at hj hm
    refine body q (by omega) hj hm.1.1 hm.1.2 hm.2.1 hm.2.2 z z' s9 (fun kg2 w2 g2 v2 L2 M2 vx2 vy2 h10 zz zz' s10 => ?_)
    exact ⟨⟨i + 1, kg2, w2, g2, v2, L2, M2, vx2, vy2, hlt, zz, zz', rfl, s10⟩, by simp only; omega⟩
  · unfold betonylaw06_GridPlays_l1
    rw [(q.ext s9.ext).len, ev_lt, ev_if, if_neg (by simpa using hlt)]
    exact awake06 (fun h10 e10 => H _ (s9.ext.trans e10))
end
end Go.Proofs.Ythhpieidlpjbmaa

end
