/- PatienceTells: the read is over when the document says. -/
import Derived.Test.YtecoejjpdogklaaPat
import Derived.Test.YtecoejjpdogklaaFbetonylaw20PatienceTells
set_option linter.unusedSimpArgs false
namespace Go.Proofs.Ytecoejjpdogklaa
open Go Go.HW

structure W.Rel (s : W) (a0 a1 a2 p q g : Int) : Prop where
  least : s.least = a0
  time : s.time = a1
  want : s.want = a2
  there : s.there = p
  q : 0 < a0 → 0 < p → s.quiet = q
  g : a0 = 0 → p = 0 → s.quiet = g

theorem W.over_ref {s : W} {a0 a1 a2 p q g : Int} (r : s.Rel a0 a1 a2 p q g) (h0 : 0 ≤ a0) (h1 : 0 ≤ a1) (h2 : 0 ≤ a2) (h3 : 0 ≤ p) : s.over = W.ref a0 a1 a2 p q g := by
  obtain ⟨rfl, rfl, rfl, rfl, rq, rg⟩ := r
  unfold W.over W.ref W.late
  by_cases c1 : s.want = 0 ∨ s.want ≤ s.there
  · have : s.want = 0 ∨ (if s.want < s.there then s.want else s.there) = s.want := by
      rcases c1 with c | c
      · exact .inl c
      · right; split <;> omega
    rw [if_pos c1, if_pos this]
  · have c2 : ¬ (s.want = 0 ∨ (if s.want < s.there then s.want else s.there) = s.want) := by
      split <;> omega
    have c3 : (if s.want < s.there then s.want else s.there) = s.there := by split <;> omega
    rw [if_neg c1, if_neg c2]
    simp only [c3]
    by_cases c4 : 0 < s.least
    · by_cases c5 : 0 < s.time
      · by_cases c6 : 0 < s.there
        · simp [c4, c5, c6, rq c4 c6]
        · simp [c4, c5, c6]
      · simp [c4, c5]
    · by_cases c5 : 0 < s.time
      · by_cases c6 : 0 < s.there
        · simp [c4, c5, c6]
        · have := rg (by omega) (by omega)
          have : s.time ≠ 0 := by omega
          simp [c4, c5, c6, *]
      · have : s.time = 0 := by omega
        simp [c4, c5, this]

/-- The tables of the loop. -/
structure TI (a0 a1 a2 : Int) (n : Nat) (s : W) (p q g : Int) (o : Bool) (i : Int) : Prop where
  rel : s.Rel a0 a1 a2 p q g
  p0 : 0 ≤ p
  p1 : p ≤ 1048576
  o : s.done = o
  q0 : 0 ≤ q
  q1 : q ≤ i
  g0 : 0 ≤ g
  g1 : g ≤ i
  u0 : 0 ≤ s.quiet
  u1 : s.quiet ≤ i
  i0 : 0 ≤ i
  i1 : i ≤ n

def lastInt : Value → Int | .int _ i => i | _ => 0

theorem TI.next {a0 a1 a2 : Int} {n : Nat} {s : W} {p q g : Int} {o : Bool} {i : Int} (t : TI a0 a1 a2 n s p q g o i) (hi : i < n) : TI a0 a1 a2 n s p q g o (i + 1) := by
  obtain ⟨r, p0, p1, ho, q0, q1, g0, g1, u0, u1, i0, i1⟩ := t
  exact ⟨r, p0, p1, ho, q0, by omega, g0, by omega, u0, by omega, by omega, by omega⟩

theorem tells_spec {h : Heap} {x4 : Value} {z : List Int} {R : Value → Heap → Prop} {a0 a1 a2 a3 : Int} (hz : Nums .i64 h x4 z) (H : ∀ h', Ext h h' → R (.bool true) h') :
    betonylaw20_PatienceTells_c (.int .i64 a0) (.int .i64 a1) (.int .i64 a2) (.int .i64 a3) x4 h R := by
  apply betonylaw20_PatienceTells_runs
  unfold betonylaw20_PatienceTells_S
  have aw : ∀ h', Ext h h' → betonylaw20_awake_c h' R := fun h' e => awake_spec fun h'' e' => H h'' (e.trans e')
  rw [hz.len]
  simp only [ev_gt, ev_if, decide_eq_true_eq]
  by_cases hlen : 100 < (z.length : Int)
  · rw [if_pos hlen]; exact aw _ (Ext.refl h)
  rw [if_neg hlen]
  refine new_spec (fun nf => ?_) (fun ft h1 e1 b1 => ?_)
  · simp only [ev_ge, ev_le, ev_and_p, ev_neqNil, ev_neqB, ev_if, ev_eqlNil, Option.isNone_none, if_true]
    have : (decide (0 ≤ a0) && decide (a0 ≤ 255) && decide (0 ≤ a1) && decide (a1 ≤ 255) && decide (0 ≤ a2) && decide (a2 ≤ 1048576) && decide (0 ≤ a3) && decide (a3 ≤ 1048576)) = false := by
      rw [Bool.eq_false_iff]; intro x
      simp only [Bool.and_eq_true, decide_eq_true_eq] at x
      exact nf ⟨⟨by omega, by omega⟩, ⟨by omega, by omega⟩, ⟨by omega, by omega⟩, by omega, by omega⟩
    rw [this]
    exact aw _ (Ext.refl h)
  · have f := ft
    obtain ⟨f0, f1, f2, f3⟩ := f
    simp only [ev_ge, ev_le, ev_and_p, ptr, ev_neqNil, ev_neqB, ev_if, ev_eqlNil, Option.isNone_some]
    have : (decide (0 ≤ a0) && decide (a0 ≤ 255) && decide (0 ≤ a1) && decide (a1 ≤ 255) && decide (0 ≤ a2) && decide (a2 ≤ 1048576) && decide (0 ≤ a3) && decide (a3 ≤ 1048576)) = true := by
      simp only [Bool.and_eq_true, decide_eq_true_eq]; omega
    rw [this]
    simp only [Bool.not_false, beq_self_eq_true, Bool.not_true, Bool.false_eq_true, if_false]
    refine ref_spec ?_
    refine ⟨fun s h' => ∃ (st : W) (p q g : Int) (o : Bool) (i : Int), s = (.int .i64 p, .int .i64 q, .int .i64 g, .bool o, .int .i64 i) ∧ Ext h h' ∧ h'.has h.size st.enc 82 ∧ TI a0 a1 a2 z.length st p q g o i ∧ o = W.ref a0 a1 a2 p q g,
      fun s _ => (101 - lastInt s.2.2.2.2).toNat, ?_, ?_⟩
    · have r : (W.new a0 a1 a2 a3).Rel a0 a1 a2 a3 0 0 := ⟨rfl, rfl, rfl, rfl, fun _ _ => rfl, fun _ _ => rfl⟩
      refine ⟨W.new a0 a1 a2 a3, a3, 0, 0, _, 0, rfl, e1, b1, ⟨r, f3.1, f3.2, ?_, Int.le_refl _, Int.le_refl _, Int.le_refl _, Int.le_refl _, Int.le_refl _, Int.le_refl _, Int.le_refl _, by omega⟩, rfl⟩
      exact W.over_ref (s := ⟨a0, a1, a2, a3, 0, false⟩) ⟨rfl, rfl, rfl, rfl, fun _ _ => rfl, fun _ _ => rfl⟩ f0.1 f1.1 f2.1 f3.1
    · rintro _ h2 ⟨s, p, q, g, o, i, rfl, e2, b2, t, ho⟩
      simp only []
      unfold betonylaw20_PatienceTells_l2 betonylaw20_PatienceTells_j1
      have e2' := hz.ext e2
      rw [e2'.len]
      simp only [ev_le, ev_if, decide_eq_true_eq]
      rw [if_pos t.i1]
      refine done_spec b2 ?_
      rw [t.o]
      simp only [ev_neqB, beq_self_eq_true, Bool.not_true, ev_orh, Bool.false_eq_true, if_false]
      refine count_spec b2 ?_
      rw [t.rel.want, t.rel.there]
      simp only [ev_min, ev_ne, bne_self_eq_false, ev_if, Bool.false_eq_true, if_false, e2'.len, ev_eq, beq_iff_eq]
      by_cases hi : i = z.length
      · rw [if_pos hi]; exact aw _ e2
      rw [if_neg hi]
      have hi1 : i < z.length := by have := t.i1; omega
      have hi2 : i < 100 := by omega
      have gt : ∀ {h3 : Heap} {K : Value → Prop}, Ext h h3 → sIxS x4 (.int .i64 i) 1 (fun p => sLd h3 p K) = K (.int .i64 (z.getD i.toNat 0)) := fun e => (hz.ext e).get t.i0 hi1
      simp only [gt e2]
      generalize hn : z.getD i.toNat 0 = n at gt
      have w1 : IntKind.i64.wrap (i + 1) = i + 1 := wrap_i64 (by have := t.i0; omega) (by omega)
      have hm : (101 - (i + 1)).toNat < (101 - i).toNat := by omega
      simp only [ev_gt, ev_if, decide_eq_true_eq]
      unfold betonylaw20_PatienceTells_j4 betonylaw20_PatienceTells_j5 betonylaw20_PatienceTells_j3
      -- a step that leaves all as it was
      have skip : ∀ {h3 : Heap}, Ext h h3 → h3.has h.size s.enc 82 → _ := fun {h3} e3 b3 => (⟨⟨s, p, q, g, o, i + 1, rfl, e3, b3, t.next hi1, ho⟩, hm⟩ :
        (∃ st p' q' g' o' i', ((.int .i64 p, .int .i64 q, .int .i64 g, .bool o, .int .i64 (i + 1)) : Value × Value × Value × Value × Value) = (.int .i64 p', .int .i64 q', .int .i64 g', .bool o', .int .i64 i') ∧ Ext h h3 ∧ h3.has h.size st.enc 82 ∧ TI a0 a1 a2 z.length st p' q' g' o' i' ∧ o' = W.ref a0 a1 a2 p' q' g') ∧ (101 - (i + 1)).toNat < (101 - i).toNat)
      by_cases hd : o = true
      · have sd : s.done = true := t.o.trans hd
        have c1 : s.come n = s := by unfold W.come; rw [if_pos (.inl sd)]
        have c2 : s.tick = s := by unfold W.tick; rw [if_pos sd]
        have k : ∀ {h3 : Heap}, Ext h h3 → h3.has h.size s.enc 82 → _ := skip
        subst hd
        split
        · refine come_spec b2 ?_
          rw [c1, upd_same b2]
          simp only [ev_or, if_true, ev_if, ev_add, w1]
          exact k e2 b2
        · refine tick_spec b2 ?_
          rw [c2, upd_same b2]
          simp only [ev_or, if_true, ev_if, ev_add, w1]
          exact k e2 b2
      · have sd : s.done = false := by rw [t.o]; simpa using hd
        have hd : o = false := by simpa using hd
        subst hd
        by_cases h0 : 0 < n
        · rw [if_pos h0]
          refine come_spec b2 ?_
          have e3 := e2.upd (c := (s.come n).enc) (t := 82) (Nat.le_refl _)
          have b3 := Heap.has_upd b2.lt (s.come n).enc 82
          revert e3 b3
          generalize h2.upd h.size (s.come n).enc 82 = h3
          intro e3 b3
          simp only [ev_or, Bool.false_eq_true, if_false, gt e3, ev_gt, ev_if, decide_eq_true_eq, ev_add, w1, ev_min, if_pos h0]
          by_cases h4 : 1048576 < n
          · have c1 : s.come n = s := by unfold W.come; rw [if_pos (.inr (.inr h4))]
            rw [c1] at b3
            rw [if_pos h4]
            exact skip e3 b3
          · rw [if_neg h4]
            refine ref_spec ?_
            have hp0 := t.p0
            have hp1 := t.p1
            have w2 : IntKind.i64.wrap (p + n) = p + n := wrap_i64 (by omega) (by omega)
            have c1 : s.come n = W.look { s with there := if 1048576 < p + n then 1048576 else p + n, quiet := 0 } := by
              unfold W.come; rw [if_neg (by rw [sd]; simp; omega), t.rel.there, w2]
            rw [c1] at b3
            rw [w2]
            have hq : 0 ≤ (if 1048576 < p + n then 1048576 else p + n) ∧ (if 1048576 < p + n then 1048576 else p + n) ≤ 1048576 ∧ 0 < (if 1048576 < p + n then 1048576 else p + n) := by split <;> omega
            revert hq b3
            generalize (if 1048576 < p + n then 1048576 else p + n) = p'
            intro b3 hq
            have r : W.Rel { s with there := p', quiet := 0 } a0 a1 a2 p' 0 g := ⟨t.rel.least, t.rel.time, t.rel.want, rfl, fun _ _ => rfl, fun _ x => by omega⟩
            have r' : W.Rel (W.look { s with there := p', quiet := 0 }) a0 a1 a2 p' 0 g := ⟨t.rel.least, t.rel.time, t.rel.want, rfl, fun _ _ => rfl, fun _ x => by omega⟩
            have hi0 := t.i0
            exact ⟨⟨_, p', 0, g, _, i + 1, rfl, e3, b3, ⟨r', by omega, by omega, W.over_ref r f0.1 f1.1 f2.1 hq.1, by omega, by omega, t.g0, by have := t.g1; omega, Int.le_refl _, by show (0 : Int) ≤ i + 1; omega, by omega, by omega⟩, rfl⟩, hm⟩
        · rw [if_neg h0]
          refine tick_spec b2 ?_
          have e3 := e2.upd (c := s.tick.enc) (t := 82) (Nat.le_refl _)
          have b3 := Heap.has_upd b2.lt s.tick.enc 82
          revert e3 b3
          generalize h2.upd h.size s.tick.enc 82 = h3
          intro e3 b3
          have hi0 := t.i0
          have hq0 := t.q0
          have hq1 := t.q1
          have hg0 := t.g0
          have hg1 := t.g1
          have hu0 := t.u0
          have hu1 := t.u1
          have w2 : IntKind.i64.wrap (q + 1) = q + 1 := wrap_i64 (by omega) (by omega)
          have w3 : IntKind.i64.wrap (g + 1) = g + 1 := wrap_i64 (by omega) (by omega)
          have w4 : IntKind.i64.wrap (s.quiet + 1) = s.quiet + 1 := wrap_i64 (by omega) (by omega)
          have h4 : ¬ 1048576 < n := by omega
          simp only [ev_or, Bool.false_eq_true, if_false, gt e3, ev_gt, ev_if, decide_eq_true_eq, ev_add, w1, w2, w3, ev_min, if_neg h0, if_neg h4]
          refine ref_spec ?_
          have c1 : s.tick = W.look { s with quiet := if s.least = 0 ∨ 0 < s.there then s.quiet + 1 else s.quiet } := by
            unfold W.tick; rw [if_neg (by rw [sd]; simp), w4]; split <;> rfl
          rw [c1] at b3
          have hu : 0 ≤ (if s.least = 0 ∨ 0 < s.there then s.quiet + 1 else s.quiet) ∧ (if s.least = 0 ∨ 0 < s.there then s.quiet + 1 else s.quiet) ≤ i + 1 := by split <;> omega
          have r1 : 0 < a0 → 0 < p → (if s.least = 0 ∨ 0 < s.there then s.quiet + 1 else s.quiet) = q + 1 := fun x y => by
            rw [if_pos (.inr (by rw [t.rel.there]; exact y)), t.rel.q x y]
          have r2 : a0 = 0 → p = 0 → (if s.least = 0 ∨ 0 < s.there then s.quiet + 1 else s.quiet) = g + 1 := fun x y => by
            rw [if_pos (.inl (by rw [t.rel.least]; exact x)), t.rel.g x y]
          revert b3 hu r1 r2
          generalize (if s.least = 0 ∨ 0 < s.there then s.quiet + 1 else s.quiet) = u
          intro b3 hu r1 r2
          have r : W.Rel { s with quiet := u } a0 a1 a2 p (q + 1) (g + 1) := ⟨t.rel.least, t.rel.time, t.rel.want, t.rel.there, r1, r2⟩
          have r' : W.Rel (W.look { s with quiet := u }) a0 a1 a2 p (q + 1) (g + 1) := ⟨t.rel.least, t.rel.time, t.rel.want, t.rel.there, r1, r2⟩
          exact ⟨⟨_, p, q + 1, g + 1, _, i + 1, rfl, e3, b3, ⟨r', t.p0, t.p1, W.over_ref r f0.1 f1.1 f2.1 t.p0, by omega, by omega, by omega, by omega, hu.1, hu.2, by omega, by omega⟩, rfl⟩, hm⟩
end Go.Proofs.Ytecoejjpdogklaa
