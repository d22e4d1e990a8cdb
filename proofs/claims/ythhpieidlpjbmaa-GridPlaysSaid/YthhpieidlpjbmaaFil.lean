/- Grids: rectangles filled. -/
import Derived.Test.YthhpieidlpjbmaaCel
import Derived.Test.YthhpieidlpjbmaaFgridGridFill
set_option linter.unusedSimpArgs false
set_option linter.unusedVariables false
namespace Go.Proofs.Ythhpieidlpjbmaa
open Go Go.HW

/-- A grid's cells with a rectangle filled. -/
def fillR (l : List Ce) (w : Int) (q : Rc) (c : Ce) : List Ce := putRows l w q.x q.y (fun _ => List.replicate q.w.toNat c) q.h.toNat
theorem fillR_len (l : List Ce) (w : Int) (q : Rc) (c : Ce) : (fillR l w q c).length = l.length := putRows_len _ _ _ _ _ _
theorem fillR_ok {l : List Ce} {w g : Int} {q : Rc} {c : Ce} (z : szOk w g l) : szOk w g (fillR l w q c) := put_ok z
theorem fillR_cell {l : List Ce} {w g x y : Int} {r : Rc} {c : Ce} (z : szOk w g l) : cell (fillR l w (r.both (allR w g)) c) w g x y = if (r.both (allR w g)).has x y then c else cell l w g x y := by
  have zz := z
  obtain ⟨z1, z2, z3, z4, z5⟩ := zz
  obtain ⟨_, b1, b2, b3, b4⟩ := both_area (a := r) ⟨z1, z2⟩ ⟨z3, z4⟩
  unfold fillR
  generalize r.both (allR w g) = q at b1 b2 b3 b4
  rw [cell_put z b1 b3 b2.1 (by omega) (fun k _ => by rw [List.length_replicate]; omega)]
  by_cases hc : q.has x y
  · have hc' := hc
    unfold Rc.has at hc'
    rw [if_pos hc, if_pos (by omega), getD_of, List.getElem?_replicate, if_pos (by omega)]; rfl
  · have hc' := hc
    unfold Rc.has at hc'
    rw [if_neg hc, if_neg (by omega)]
theorem setAll_snoc : ∀ (s : List Ce) (l : List Ce) (p : Nat) (c : Ce), setAll l p (s ++ [c]) = (setAll l p s).set (p + s.length) c
  | [], l, p, c => rfl
  | x :: s, l, p, c => by
    rw [List.cons_append, setAll, setAll_snoc s, setAll, List.length_cons, show p + 1 + s.length = p + (s.length + 1) by omega]
theorem both_pos {a : Rc} {w g : Int} (h : 0 < (a.both (allR w g)).h) : (a.both (allR w g)).empty = false := by
  unfold Rc.empty
  generalize hq : a.both (allR w g) = q at h ⊢
  unfold Rc.both at hq
  split at hq
  · unfold rof at hq
    split at hq
    · rw [← hq] at h; simp at h
    · rw [← hq] at h ⊢
      simp only at h ⊢
      simp only [Bool.or_eq_false_iff, decide_eq_false_iff_not]
      omega
  · rw [← hq] at h; simp at h

section
variable {h0 h : Heap} {F : List HP} {R : Value → Heap → Prop}
theorem cutP_cut2 {v : Value} {l : List Ce} {a b X Y : Nat} (q : Seq encCe 4 h v l) (h1 : a + X < b) (h2 : b ≤ l.length) : HW.cutP (HW.cutP v a b 4) X Y 4 = HW.cutP v (a + X) (a + Y) 4 := by
  obtain ⟨va, n, m, rfl, hn, hm, h3 | ⟨bb, o, rfl, hb, hc⟩⟩ := q
  · omega
  · simp only [HW.cutP, cutV]
    rw [if_neg (show ¬ m = a by omega), if_neg (show ¬ m - a = X by omega), if_neg (show ¬ m = a + X by omega)]
    simp only [Option.map_some, Addr.add]
    have e1 : Y - X = a + Y - (a + X) := by omega
    have e2 : m - a - X = m - (a + X) := by omega
    rw [e1, e2]
    congr 2
    by_cases ha : a * 4 = 0
    · have : a = 0 := by omega
      subst this
      simp
    · rw [if_neg ha]
      by_cases hX : X * 4 = 0
      · have : X = 0 := by omega
        subst this
        rw [if_pos (by omega), if_neg (by omega)]; rfl
      · rw [if_neg hX, if_neg (by omega)]
        simp only [Addr.mk.injEq, and_true, true_and]
        omega
theorem fill_spec {kg : Nat} {w g : Int} {v : Value} {l : List Ce} {r : Rc} {c : Ce} (z : szOk w g l)
    (s : HW.Sep h0 (Blk kg (grd w g v) 68 :: Sl encCe 4 v l :: F) h)
    (H : ∀ h', HW.Sep h0 (Blk kg (grd w g v) 68 :: Sl encCe 4 v (fillR l w (r.both (allR w g)) c) :: F) h' → R (.int .i64 (r.both (allR w g)).area) h') :
    grid_Grid_Fill_c (ptr kg 0) r.v (.agg c.a) h R := by
  apply grid_Grid_Fill_runs
  unfold grid_Grid_Fill_S
  refine s.box (c := r.c) r.cells (fun k4 h1 s1 => ?_)
  refine s1.box (c := c.a) rfl (fun k5 h2 s2 => ?_)
  have b4 : h2.has k4 r.c 23 := s2.b1.has
  refine ⟨fun h' => h'.has k4 r.c 23, b4, ?_⟩
  have cA : ∀ {K : Value → Prop}, sLdNC (fun h' => h'.has k4 r.c 23) (ptr k4 0) 4 K = K r.v := fun {K} => ldnc_all (C := fun h' => h'.has k4 r.c 23) (h0 := h2) b4 rfl (fun _ e => e)
  rw [cA]
  refine all_spec s2.b2 (fun h3 e3 => ⟨e3.has b4, ?_⟩)
  refine rboth_spec (a := r) (b := allR w g) (fun h4 e4 => ?_)
  have zz := z
  obtain ⟨z1, z2, z3, z4, z5⟩ := zz
  obtain ⟨_, b1, b2, b3, b4⟩ := both_area (a := r) ⟨z1, z2⟩ ⟨z3, z4⟩
  have hpos := both_pos (a := r) (w := w) (g := g)
  unfold fillR at H
  generalize r.both (allR w g) = q at b1 b2 b3 b4 H hpos
  refine ((s2.ext' e3).ext' e4).b1.stall (cs := q.c) rfl rfl (Rc.cell1 _) (fun h5 s5 => ?_)
  have f3 : ∀ {K : Value → Prop}, sLd h5 (ptr k4 3) K = K (.int .i64 q.h) := s5.ld rfl
  rw [ev_off, Nat.zero_add, f3]
  generalize hrw : (fun _ : Nat => List.replicate q.w.toNat c) = rw_ at H
  refine ⟨fun t h' => ∃ i : Nat, (i : Int) ≤ q.h ∧ t = .int .i64 i ∧ HW.Sep h0 (Blk k4 q.c 23 :: Blk k5 c.a 27 :: Blk kg (grd w g v) 68 :: Sl encCe 4 v (putRows l w q.x q.y rw_ i) :: F) h', fun t _ => match t with | .int _ k => (q.h - k).toNat | _ => 0, ⟨0, by omega, rfl, s5⟩, ?_⟩
  rintro _ h6 ⟨i, hi, rfl, s6⟩
  simp only []
  unfold grid_Grid_Fill_l1
  rw [ev_lt, ev_if]
  by_cases hlt : (i : Int) < q.h
  · rw [if_pos (decide_eq_true hlt)]
    have hw : 1 ≤ q.w := by
      have := hpos (by omega)
      unfold Rc.empty at this
      simp only [Bool.or_eq_false_iff, decide_eq_false_iff_not] at this
      omega
    have b4' : h6.has k4 q.c 23 := s6.has
    refine ⟨fun h' => h'.has k4 q.c 23, b4', ?_⟩
    have f1 : ∀ {K : Value → Prop}, sLd h6 (ptr k4 1) K = K (.int .i64 q.y) := s6.ld rfl
    have c4 : ∀ {o : Nat} {u : Value} {K : Value → Prop}, q.c[o]? = some u → sLdC (fun h' => h'.has k4 q.c 23) (ptr k4 o) K = K u := fun hv => ldc_at (C := fun h' => h'.has k4 q.c 23) (h0 := h6) b4' (fun h' e => by rw [e.at, hv])
    rw [ev_off, Nat.zero_add, f1, ev_add, wrap_i64 (by omega) (by omega)]
    have hyk : 0 ≤ q.y + i ∧ q.y + i < g := by omega
    have zk : szOk w g (putRows l w q.x q.y rw_ i) := put_ok z
    refine row_spec (s6.tail2) zk hyk ⟨b4', ?_⟩
    simp only [ev_off]
    rw [c4 (o := 0) (u := .int .i64 q.x) rfl, c4 (o := 0) (u := .int .i64 q.x) rfl, c4 (o := 2) (u := .int .i64 q.w) rfl, ev_add, wrap_i64 (x := q.x + q.w) (by omega) (by omega)]
    have m := sz_mul ⟨z1, z2⟩ z4 hyk
    rw [Int.mul_comm w g] at z5
    obtain ⟨a, ha⟩ : ∃ a : Nat, (q.y + i) * w = a := ⟨((q.y + i) * w).toNat, by omega⟩
    obtain ⟨b, hb⟩ : ∃ b : Nat, (q.y + i + 1) * w = b := ⟨((q.y + i + 1) * w).toNat, by omega⟩
    obtain ⟨X, hX⟩ : ∃ X : Nat, q.x = X := ⟨q.x.toNat, by omega⟩
    obtain ⟨W, hW⟩ : ∃ W : Nat, q.w = W := ⟨q.w.toNat, by omega⟩
    have hlk : (putRows l w q.x q.y rw_ i).length = l.length := putRows_len _ _ _ _ _ _
    rw [ha, hb, Int.toNat_natCast, Int.toNat_natCast, show q.x + q.w = ((X + W : Nat) : Int) by omega, hX]
    have qv := s6.b3.seq
    have qc := qv.cutP (i := a) (j := b) (by omega) (by omega)
    refine qc.slK (i := X) (j := X + W) (by omega) (by simp only [List.length_drop, List.length_take]; omega) ⟨.i64, rfl⟩ ⟨.i64, rfl⟩ ?_
    rw [cutP_cut2 qv (by omega) (by omega)]
    have qd := qv.cutP (i := a + X) (j := a + (X + W)) (by omega) (by omega)
    rw [qd.len, show ((putRows l w q.x q.y rw_ i).take (a + (X + W)) |>.drop (a + X)).length = W by simp only [List.length_drop, List.length_take]; omega]
    refine ⟨fun t h' => ∃ j : Nat, j ≤ W ∧ t = .int .i64 j ∧ HW.Sep h0 (Blk k4 q.c 23 :: Blk k5 c.a 27 :: Blk kg (grd w g v) 68 :: Sl encCe 4 v (setAll (putRows l w q.x q.y rw_ i) (a + X) (List.replicate j c)) :: F) h', fun t _ => match t with | .int _ k => (W - k).toNat | _ => 0, ⟨0, Nat.zero_le _, rfl, s6⟩, ?_⟩
    rintro _ h7 ⟨j, hj, rfl, s7⟩
    simp only []
    unfold grid_Grid_Fill_l2
    rw [ev_lt, ev_if]
    by_cases hjt : j < W
    · rw [if_pos (by simpa using hjt), s7.b1.ldall (n := 4) rfl]
      have ql : Seq encCe 4 h7 v (setAll (putRows l w q.x q.y rw_ i) (a + X) (List.replicate j c)) := s7.b3.seq
      have qe := ql.cutP (i := a + X) (j := a + (X + W)) (by omega) (by rw [setAll_len]; omega)
      rw [qe.elt (by rw [List.length_drop, List.length_take, setAll_len]; omega), eltP_cut ql (by omega) (by rw [setAll_len]; omega)]
      refine s7.b3.setn encCe_len encCe_cell (by rw [setAll_len]; omega) c (fun h8 s8 => ?_)
      rw [ev_add, wrap_i64 (by omega) (by omega)]
      refine ⟨⟨j + 1, hjt, by rw [Int.natCast_add]; rfl, ?_⟩, by simp only; omega⟩
      rw [List.replicate_succ', setAll_snoc, List.length_replicate]
      exact s8.p3
    · have : j = W := by omega
      subst this
      rw [if_neg (by simp), ev_add, wrap_i64 (by omega) (by omega)]
      refine ⟨⟨i + 1, by omega, by rw [Int.natCast_add]; rfl, ?_⟩, by simp only; omega⟩
      have e : putRows l w q.x q.y rw_ (i + 1) = setAll (putRows l w q.x q.y rw_ i) (a + X) (List.replicate j c) := by
        rw [putRows, ha, hX, ← hrw, hW]
        congr 1
      rw [← hX, e]
      exact s7
  · rw [if_neg (by simpa using hlt), s6.ldall (n := 4) rfl]
    refine rarea_spec (r := q) (fun h7 e7 => H h7 ?_)
    rw [show q.h.toNat = i by omega]
    exact (s6.ext' e7).tail2
end
end Go.Proofs.Ythhpieidlpjbmaa
