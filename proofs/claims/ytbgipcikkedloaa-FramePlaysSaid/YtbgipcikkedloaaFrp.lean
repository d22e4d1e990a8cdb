/- Frames: the document's answer, step by step. -/
import Derived.Test.YtbgipcikkedloaaFrm
import Derived.Test.YtbgipcikkedloaaFgridGridRow
import Derived.Test.YtbgipcikkedloaaFbetonyref06GridIn
import Derived.Test.YtbgipcikkedloaaFbetonyref06GridAt
import Derived.Test.YtbgipcikkedloaaFbetonyref06GridSet
import Derived.Test.YtbgipcikkedloaaFbetonyref06New
import Derived.Test.YtbgipcikkedloaaFbetonyref06Same
import Derived.Test.YtbgipcikkedloaaFbetonyref10Same
import Derived.Test.YtbgipcikkedloaaFbetonylaw06Shows
set_option linter.unusedSimpArgs false
set_option linter.unusedVariables false
namespace Go.Proofs.Ytbgipcikkedloaa
open Go Go.HW

section
variable {h0 h : Heap} {F : List HP} {R : Value → Heap → Prop} {kg : Nat} {v : Value} {w g : Int} {l : List Ce}
theorem rin6_spec {x y : Int} (H : ∀ h', Ext h h' → R (.bool (inG w g x y)) h') : betonyref06_Grid_In_c (.agg (grd w g v)) (.int .i64 x) (.int .i64 y) h R := by
  apply betonyref06_Grid_In_runs
  unfold betonyref06_Grid_In_S
  refine (HW.Sep.start h).box (c := grd w g v) rfl (fun k h1 s1 => ?_)
  have f0 : ∀ {K : Value → Prop}, sLd h1 (ptr k 0) K = K (.int .i64 w) := s1.ld rfl
  have f1 : ∀ {K : Value → Prop}, sLd h1 (ptr k 1) K = K (.int .i64 g) := s1.ld rfl
  simp only [ev_off, Nat.zero_add, f0, f1, ev_ge, ev_lt, ev_and_p]
  have e : (decide (x ≥ 0) && decide (x < w) && decide (y ≥ 0) && decide (y < g)) = inG w g x y := by unfold inG; rw [Bool.and_assoc (_ && _)]
  rw [e]
  exact H h1 s1.ext
theorem idx6 {x y : Int} (z : szOk w g l) (hin : inG w g x y = true) : ∃ i : Nat, IntKind.i64.wrap (IntKind.i64.wrap (y * w) + x) = i ∧ i < l.length ∧ (y * w + x).toNat = i := by
  obtain ⟨ix, iy⟩ := inG_iff.1 hin
  obtain ⟨i, j, n, e1, e2, e4, h5, h6, e3⟩ := idx z ix iy
  obtain ⟨z1, z2, z3, z4, z5⟩ := z
  have m := sz_mul ⟨z1, z2⟩ z4 iy
  exact ⟨i + n, by rw [wrap_i64 (x := y * w) (by omega) (by omega), wrap_i64 (by omega) (by omega)]; omega, by omega, e3⟩
theorem rat6_spec {x y : Int} (q : Seq encCe 4 h v l) (z : szOk w g l) (H : ∀ h', Ext h h' → R (.agg (cell l w g x y).a) h') : betonyref06_Grid_At_c (.agg (grd w g v)) (.int .i64 x) (.int .i64 y) h R := by
  apply betonyref06_Grid_At_runs
  unfold betonyref06_Grid_At_S
  refine (HW.Sep.start h).box (c := grd w g v) rfl (fun k h1 s1 => ?_)
  refine s1.new (fun k2 h2 s2 => ?_)
  rw [s2.b1.ldall (n := 3) rfl]
  refine rin6_spec (fun h3 e3 => ?_)
  have s3 := s2.ext' e3
  rw [ev_not, ev_if]
  unfold cell at H
  cases hin : inG w g x y with
  | false =>
    rw [hin, if_neg (by decide)] at H
    rw [if_pos (by decide)]
    refine build_intro (cs := ce0.a) rfl ?_
    refine s3.stall (cs := ce0.a) rfl rfl (ce_cell _) (fun h4 s4 => ?_)
    rw [s4.ldall (n := 4) rfl]
    exact H h4 s4.ext
  | true =>
    rw [hin, if_pos rfl] at H
    rw [if_neg (by decide)]
    have f0 : ∀ {K : Value → Prop}, sLd h3 (ptr k 0) K = K (.int .i64 w) := s3.b1.ld rfl
    have f2 : ∀ {K : Value → Prop}, sLd h3 (ptr k 2) K = K v := s3.b1.ld rfl
    obtain ⟨i, ei, hi, e⟩ := idx6 z hin
    rw [e] at H
    simp only [ev_off, Nat.zero_add, f0, f2, ev_mul, ev_add, ei]
    have hg : l[i]? = some (l.getD i ce0) := by rw [List.getD_eq_getElem?_getD, List.getElem?_eq_getElem hi]; rfl
    rw [(q.ext s3.ext).ldn hg rfl]
    refine s3.stall (cs := (l.getD i ce0).a) rfl rfl (ce_cell _) (fun h4 s4 => ?_)
    rw [s4.ldall (n := 4) rfl]
    exact H h4 s4.ext
abbrev z3r : Array Value := #[.int .i64 0, .int .i64 0, .slice none 0 0]
theorem grd_cell {h : Heap} (q : Seq encCe 4 h v l) : ∀ u ∈ (grd w g v).toList, Cell1 u := by
  intro u hu; simp [grd] at hu
  rcases hu with rfl | rfl | rfl
  · trivial
  · trivial
  · exact seq_cell q
theorem rset6_spec {x y : Int} {c : Ce} (q : HW.Rd encCe 4 h0 F v l) (s : HW.Sep h0 F h) (z : szOk w g l) (H : ∀ v' h', HW.Sep h0 (Sl encCe 4 v' (setC l w g x y c) :: F) h' → R (.agg (grd w g v')) h') : betonyref06_Grid_Set_c (.agg (grd w g v)) (.int .i64 x) (.int .i64 y) (.agg c.a) h R := by
  apply betonyref06_Grid_Set_runs
  unfold betonyref06_Grid_Set_S
  have hlen : l.length ≤ 262144 := by
    obtain ⟨z1, z2, z3, z4, z5⟩ := z
    have m := sz_mul (w := w) (h := g) (y := 0) ⟨z1, z2⟩ z4 ⟨by omega, by omega⟩
    rw [Int.mul_comm g w] at m
    omega
  refine s.box (c := grd w g v) rfl (fun k h1 s1 => ?_)
  refine s1.box (c := c.a) rfl (fun kc h2 s2 => ?_)
  refine s2.new (fun kr h3 s3 => ?_)
  -- kr, kc, k, F
  have hk : ∀ {A B : HP} {h' : Heap}, HW.Sep h0 (A :: B :: Blk k (grd w g v) 42 :: F) h' → h'.has k (grd w g v) 42 := fun s => s.b2.has
  refine ⟨fun h' => h'.has k (grd w g v) 42, s3.b2.has, ?_⟩
  have at_ : ∀ {o : Nat} {u : Value} {K : Value → Prop}, (grd w g v)[o]? = some u → sLdC (fun h' => h'.has k (grd w g v) 42) (ptr k o) K = K u := fun hv => ldc_at (C := fun h' => h'.has k (grd w g v) 42) (h0 := h3) s3.b2.has (fun h' e => by rw [e.at, hv])
  simp only [ev_off, Nat.zero_add]
  rw [at_ (o := 0) rfl, at_ (o := 1) rfl, at_ (o := 2) rfl]
  have j2 : ∀ {v' : Value} {k9 : Nat} {h' : Heap}, HW.Sep h0 (Blk k9 (grd w g v') 42 :: Blk kr z3r 42 :: Sl encCe 4 v' (setC l w g x y c) :: F) h' → betonyref06_Grid_Set_j2 R (ptr kr 0) (ptr k9 0) h' := by
    intro v' k9 h' s'
    unfold betonyref06_Grid_Set_j2
    rw [s'.ldall (n := 3) rfl]
    refine s'.b1.stall (cs := grd w g v') rfl rfl (grd_cell s'.b2.seq) (fun h4 s4 => ?_)
    rw [s4.ldall (n := 3) rfl]
    exact H v' h4 s4.tail2
  have j1 : ∀ {v' : Value} {k9 : Nat} {h' : Heap}, HW.Sep h0 (Blk k9 (grd w g v') 42 :: Sl encCe 4 v' l :: Blk kr z3r 42 :: Blk kc c.a 32 :: Blk k (grd w g v) 42 :: F) h' → betonyref06_Grid_Set_j1 R (.int .i64 x) (.int .i64 y) (ptr k 0) (ptr kc 0) (ptr kr 0) (ptr k9 0) h' := by
    intro v' k9 h' s'
    unfold betonyref06_Grid_Set_j1
    rw [s'.b4.ldall (n := 3) rfl]
    refine rin6_spec (fun h4 e4 => ?_)
    have s4 := s'.ext' e4
    rw [ev_if]
    cases hin : inG w g x y with
    | false =>
      rw [if_neg (by decide)]
      have : setC l w g x y c = l := by unfold setC; rw [if_neg (by rw [hin]; decide)]
      refine j2 (v' := v') ?_
      rw [this]
      exact s4.b4.tail.b3.tail.b1.p2
    | true =>
      rw [if_pos rfl]
      have f2 : ∀ {K : Value → Prop}, sLd h4 (ptr k9 2) K = K v' := s4.ld rfl
      have f0 : ∀ {K : Value → Prop}, sLd h4 (ptr k 0) K = K (.int .i64 w) := s4.b4.ld rfl
      obtain ⟨i, ei, hi, e⟩ := idx6 z hin
      simp only [ev_off, Nat.zero_add, f0, f2, ev_mul, ev_add, ei]
      rw [s4.b3.ldall (n := 4) rfl, s4.b1.seq.elt hi]
      refine s4.b1.setn encCe_len encCe_cell hi c (fun h5 s5 => j2 (v' := v') ?_)
      have : setC l w g x y c = l.set i c := by unfold setC; rw [if_pos hin, e]
      rw [this]
      exact s5.b4.tail.b3.tail.p2
  have bld : ∀ {v' : Value} {P : Value → Prop} {h' : Heap}, Seq encCe 4 h' v' l → P (.agg (grd w g v')) → sBuild z3r [(0, 1, .int .i64 w), (1, 1, .int .i64 g), (2, 1, v')] P := by
    intro v' P h' q' hP
    obtain ⟨va, vn, vm, rfl, _⟩ := q'
    exact build_intro (cs := grd w g (.slice va vn vm)) ⟨rfl, Nat.le_of_ble_eq_true rfl, rfl, Nat.le_of_ble_eq_true rfl, rfl, Nat.le_of_ble_eq_true rfl, rfl⟩ hP
  have qF : ∀ {L : List HP} {h' : Heap}, HW.Sep h0 (L ++ F) h' → Seq encCe 4 h' v l := fun s => q _ _ s
  refine ⟨?_, ?_⟩
  · refine s3.slit (enc := encCe) (sz := 4) encCe_len [] rfl rfl (fun a h4 _ s4 => ⟨s4.b3.has, ?_⟩)
    refine ⟨?_, ?_⟩
    · refine s4.app (enc := encCe) (sz := 4) rfl (by decide) encCe_len encCe_cell (qF (L := [_, _, _, _]) s4) (by simp only [List.length_nil]; omega) (by decide) (fun v' h5 _ s5 => ⟨s5.b3.has, ?_⟩)
      refine bld s5.seq ?_
      refine s5.new (fun k9 h6 s6 => ⟨s6.b4.has, ?_⟩)
      refine s6.stall (cs := grd w g v') rfl rfl (grd_cell s6.b1.seq) (fun h7 s7 => j1 s7)
    · refine s4.new (fun k9 h5 s5 => ⟨s5.b4.has, ?_⟩)
      refine s5.b1.app (enc := encCe) (sz := 4) rfl (by decide) encCe_len encCe_cell (qF (L := [_, _, _, _, _]) s5) (by simp only [List.length_nil]; omega) (by decide) (fun v' h6 _ s6 => ⟨s6.b4.has, ?_⟩)
      refine bld s6.seq ?_
      refine s6.b1.stall (cs := grd w g v') rfl rfl (grd_cell s6.seq) (fun h7 s7 => j1 s7)
  · refine s3.new (fun k9 h4 s4 => ⟨s4.b3.has, ?_⟩)
    refine s4.slit (enc := encCe) (sz := 4) encCe_len [] rfl rfl (fun a h5 _ s5 => ⟨s5.b4.has, ?_⟩)
    refine s5.app (enc := encCe) (sz := 4) rfl (by decide) encCe_len encCe_cell (qF (L := [_, _, _, _, _]) s5) (by simp only [List.length_nil]; omega) (by decide) (fun v' h6 _ s6 => ⟨s6.b4.has, ?_⟩)
    refine bld s6.seq ?_
    refine s6.b1.stall (cs := grd w g v') rfl rfl (grd_cell s6.seq) (fun h7 s7 => j1 s7)
theorem rnew6_spec (hc : 1 ≤ w ∧ w ≤ 512 ∧ 1 ≤ g ∧ g ≤ 512) (H : ∀ v h', szOk w g (List.replicate (w * g).toNat ce0) → HW.Sep h [Sl encCe 4 v (List.replicate (w * g).toNat ce0)] h' → R (.agg (grd w g v)) h') : betonyref06_New_c (.int .i64 w) (.int .i64 g) h R := by
  apply betonyref06_New_runs
  unfold betonyref06_New_S
  have m := sz_mul (w := w) (h := g) (y := 0) ⟨hc.1, hc.2.1⟩ hc.2.2.2 ⟨by omega, by omega⟩
  rw [Int.mul_comm g w] at m
  have m0 : 0 ≤ w * g := Int.mul_nonneg (by omega) (by omega)
  refine (HW.Sep.start h).new (fun k h1 s1 => ?_)
  rw [ev_mul, wrap_i64 (by omega) (by omega)]
  refine s1.make (enc := encCe) (sz := 4) encCe_len ce0 rfl (w * g).toNat (w * g).toNat (by omega) (by omega) (Nat.le_refl _) (by omega) (by omega) (fun v h2 cv s2 => ?_)
  obtain ⟨va, vn, vm, rfl, _⟩ := s2.seq
  refine build_intro (cs := grd w g (.slice va vn vm)) ⟨rfl, Nat.le_of_ble_eq_true rfl, rfl, Nat.le_of_ble_eq_true rfl, rfl, Nat.le_of_ble_eq_true rfl, rfl⟩ ?_
  refine s2.b1.stall (cs := grd w g (.slice va vn vm)) rfl rfl (grd_cell s2.seq) (fun h3 s3 => ?_)
  rw [s3.ldall (n := 3) rfl]
  exact H _ h3 ⟨hc.1, hc.2.1, hc.2.2.1, hc.2.2.2, by rw [List.length_replicate]; omega⟩ s3.tail
theorem wr_ok (x : Wr) : okC [some .i64, some .i64, some .i32, some .i64, some .i64, some .i64] (encWr x) := by simp [encWr, encCe, okC]
theorem same10_spec {u u' : Value} {n : List Wr} (hn : n.length ≤ 1000) (q : Seq encWr 6 h u n) (q' : Seq encWr 6 h u' n) (H : R (.bool true) h) : betonyref10_Same_c u u' h R := by
  apply betonyref10_Same_runs
  unfold betonyref10_Same_S
  rw [q.len, q'.len, ev_ne, bne_self_eq_false, ev_if, if_neg (by decide)]
  refine ⟨fun t h' => ∃ i : Nat, i ≤ n.length ∧ t = .int .i64 i ∧ h' = h, fun t _ => match t with | .int _ i => (n.length - i).toNat | _ => 0, ⟨0, Nat.zero_le _, rfl, rfl⟩, ?_⟩
  rintro _ h' ⟨i, hi, rfl, e⟩
  subst e
  simp only []
  unfold betonyref10_Same_l1
  rw [q.len, ev_lt, ev_if]
  by_cases hlt : i < n.length
  · rw [if_pos (by simpa using hlt)]
    have hg : n[i]? = some n[i] := List.getElem?_eq_getElem hlt
    rw [q.ldn hg rfl, q'.ldn hg rfl, ev_neqAgg (by simpa using wr_ok _) (by simpa using wr_ok _), eqVs_selfG (by simpa using wr_ok n[i]), ev_if, if_neg (by decide), ev_add, wrap_i64 (by omega) (by omega)]
    exact ⟨⟨i + 1, hlt, rfl, rfl⟩, by simp only; omega⟩
  · rw [if_neg (by simpa using hlt)]; exact H
theorem same06_spec {u u' : Value} {n : List Ce} (hn : n.length ≤ 300000) (q : Seq encCe 4 h u n) (q' : Seq encCe 4 h u' n) (H : R (.bool true) h) : betonyref06_Same_c u u' h R := by
  apply betonyref06_Same_runs
  unfold betonyref06_Same_S
  rw [q.len, q'.len, ev_ne, bne_self_eq_false, ev_if, if_neg (by decide)]
  refine ⟨fun t h' => ∃ i : Nat, i ≤ n.length ∧ t = .int .i64 i ∧ h' = h, fun t _ => match t with | .int _ i => (n.length - i).toNat | _ => 0, ⟨0, Nat.zero_le _, rfl, rfl⟩, ?_⟩
  rintro _ h' ⟨i, hi, rfl, e⟩
  subst e
  simp only []
  unfold betonyref06_Same_l1
  rw [q.len, ev_lt, ev_if]
  by_cases hlt : i < n.length
  · rw [if_pos (by simpa using hlt)]
    have hg : n[i]? = some n[i] := List.getElem?_eq_getElem hlt
    rw [q.ldn hg rfl, q'.ldn hg rfl, ce_enc, ev_neqAgg (ce_ok _) (ce_ok _), eqVs_selfG (ce_ok n[i]), ev_if, if_neg (by decide), ev_add, wrap_i64 (by omega) (by omega)]
    exact ⟨⟨i + 1, hlt, rfl, rfl⟩, by simp only; omega⟩
  · rw [if_neg (by simpa using hlt)]; exact H
theorem rowI_spec {y : Int} (s : HW.Sep h0 (Blk kg (grd w g v) 73 :: Sl encCe 4 v l :: F) h) (z : szOk w g l) (hy : 0 ≤ y ∧ y < g) (H : ∀ v' h', Ext h h' → Seq encCe 4 h' v' ((l.take ((y + 1) * w).toNat).drop (y * w).toNat) → R v' h') : grid_Grid_Row_c (ptr kg 0) (.int .i64 y) h R := by
  apply grid_Grid_Row_runs
  unfold grid_Grid_Row_S
  have f1 : ∀ {K : Value → Prop}, sLd h (ptr kg 1) K = K (.int .i64 g) := s.ld rfl
  simp only [ev_lt, ev_ge, ev_nil, ev_off, Nat.zero_add, f1, ev_or_p, ev_if]
  rw [if_neg (by simp only [Bool.or_eq_true, decide_eq_true_eq]; omega)]
  refine row_spec s z hy ?_
  have zz := z
  obtain ⟨z1, z2, z3, z4, z5⟩ := zz
  have m := sz_mul ⟨z1, z2⟩ z4 hy
  rw [Int.mul_comm w g] at z5
  have q := s.b1.seq.cutP (i := (y * w).toNat) (j := ((y + 1) * w).toNat) (by omega) (by omega)
  refine clone_cells (F := []) (Rd.base q) (HW.Sep.start h) (by rw [List.length_drop, List.length_take]; omega) (by rw [List.length_drop, List.length_take]; omega) (fun v' h1 c1 s1 => ?_)
  exact H v' h1 s1.ext s1.seq
theorem shows_spec {vx : Value} (s : HW.Sep h0 (Blk kg (grd w g v) 73 :: Sl encCe 4 v l :: F) h) (qx : Seq encCe 4 h vx l) (z : szOk w g l) (H : ∀ h', Ext h h' → R (.int .i64 0) h') : betonylaw06_Shows_c (ptr kg 0) (.agg (grd w g vx)) h R := by
  apply betonylaw06_Shows_runs
  unfold betonylaw06_Shows_S
  refine (HW.Sep.start h).box (c := grd w g vx) rfl (fun k h1 s1 => ?_)
  refine size_spec (s.ext' s1.ext) ?_
  have f0 : ∀ {K : Value → Prop}, sLd h1 (ptr k 0) K = K (.int .i64 w) := s1.ld rfl
  have f1 : ∀ {K : Value → Prop}, sLd h1 (ptr k 1) K = K (.int .i64 g) := s1.ld rfl
  simp only [ev_tup, List.getElem?_toArray, List.getElem?_cons_succ, List.getElem?_cons_zero, ev_off, Nat.zero_add, f0, f1, ev_ne, bne_self_eq_false, ev_or_p, Bool.or_self, ev_if, Bool.false_eq_true, if_false]
  have zz := z
  obtain ⟨z1, z2, z3, z4, z5⟩ := zz
  refine ⟨fun t h' => ∃ i : Nat, (i : Int) ≤ g ∧ t = .int .i64 i ∧ HW.Sep h [Blk k (grd w g vx) 42] h', fun t _ => match t with | .int _ i => (g - i).toNat | _ => 0, ⟨0, by omega, rfl, s1⟩, ?_⟩
  rintro _ h2 ⟨i, hi, rfl, s2⟩
  simp only []
  unfold betonylaw06_Shows_l1
  rw [ev_lt, ev_if]
  by_cases hlt : (i : Int) < g
  · rw [if_pos (decide_eq_true hlt)]
    refine ⟨fun h' => h'.has k (grd w g vx) 42, s2.has, ?_⟩
    have hy : 0 ≤ (i : Int) ∧ (i : Int) < g := ⟨by omega, hlt⟩
    have m := sz_mul ⟨z1, z2⟩ z4 hy
    rw [Int.mul_comm w g] at z5
    refine rowI_spec (s.ext' s2.ext) z hy (fun v' h3 e3 q3 => ⟨(s2.ext' e3).has, ?_⟩)
    have c2 : ∀ {K : Value → Prop}, sLdC (fun h' => h'.has k (grd w g vx) 42) (ptr k 2) K = K vx := fun {K} => ldc_at (C := fun h' => h'.has k (grd w g vx) 42) (h0 := h2) s2.has (fun h' e => by rw [e.at]; rfl)
    rw [ev_off, Nat.zero_add, c2]
    simp only [ev_mul, ev_add]
    rw [wrap_i64 (by omega) (by omega), wrap_i64 (x := (i : Int) + 1) (by omega) (by omega), wrap_i64 (by omega) (by omega)]
    obtain ⟨a, ha⟩ : ∃ a : Nat, (i : Int) * w = a := ⟨((i : Int) * w).toNat, by omega⟩
    obtain ⟨b, hb⟩ : ∃ b : Nat, ((i : Int) + 1) * w = b := ⟨(((i : Int) + 1) * w).toNat, by omega⟩
    rw [ha, hb] at q3 ⊢
    rw [Int.toNat_natCast, Int.toNat_natCast] at q3
    have qx3 := (qx.ext s2.ext).ext e3
    refine qx3.slK (i := a) (j := b) (by omega) (by omega) ⟨.i64, rfl⟩ ⟨.i64, rfl⟩ ?_
    have qc := qx3.cutP (i := a) (j := b) (by omega) (by omega)
    refine same06_spec (by rw [List.length_drop, List.length_take]; omega) q3 qc ?_
    rw [ev_not, ev_if, if_neg (by decide)]
    exact ⟨⟨i + 1, by omega, by rw [Int.natCast_add]; rfl, s2.ext' e3⟩, by omega⟩
  · rw [if_neg (by simpa using hlt)]
    exact H h2 s2.ext
end
end Go.Proofs.Ytbgipcikkedloaa
