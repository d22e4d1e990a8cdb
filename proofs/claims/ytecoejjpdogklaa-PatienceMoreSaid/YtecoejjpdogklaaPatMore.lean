/- PatienceMore and PatienceEnds, on the six numbers. -/
import Derived.Test.YtecoejjpdogklaaPat
import Derived.Test.YtecoejjpdogklaaFbetonylaw20PatienceMore
import Derived.Test.YtecoejjpdogklaaFbetonylaw20PatienceEnds
import Derived.Test.YtecoejjpdogklaaFbetonylaw20step
set_option linter.unusedSimpArgs false
namespace Go.Proofs.Ytecoejjpdogklaa
open Go Go.HW

theorem step_spec {Q : W → Prop} (hc : ∀ s n, Q s → Q (s.come n)) (ht : ∀ s, Q s → Q s.tick) {h0 h : Heap} {b t : Nat} {s : W} {x : Value} {z : List Int} {R : Value → Heap → Prop}
    (hz : Nums .i64 h0 x z) (hl : z.length ≤ 100) (e : Ext h0 h) (hn : h0.size ≤ b) (hb : h.has b s.enc t) (q : Q s)
    (H : ∀ s' h', Ext h0 h' → h'.has b s'.enc t → Q s' → R unit h') : betonylaw20_step_c (ptr b 0) x h R := by
  apply betonylaw20_step_runs
  unfold betonylaw20_step_S
  refine ⟨fun v h' => ∃ (i : Int) (s' : W), v = .int .i64 i ∧ 0 ≤ i ∧ i ≤ z.length ∧ Ext h0 h' ∧ h'.has b s'.enc t ∧ Q s', fun v _ => match v with | .int _ i => (100 - i).toNat | _ => 0, ⟨0, s, rfl, by omega, by omega, e, hb, q⟩, ?_⟩
  rintro _ h1 ⟨i, s1, rfl, i0, i1, e1, b1, q1⟩
  unfold betonylaw20_step_l1 betonylaw20_step_j2
  rw [hz.len]
  simp only [ev_lt, ev_if, decide_eq_true_eq]
  by_cases hi : i < z.length
  · rw [if_pos hi, (hz.ext e1).get i0 hi]
    simp only [ev_gt, ev_if, decide_eq_true_eq]
    have w1 : IntKind.i64.wrap (i + 1) = i + 1 := wrap_i64 (by omega) (by omega)
    by_cases h2 : 0 < z.getD i.toNat 0
    · rw [if_pos h2, (hz.ext e1).get i0 hi]
      refine come_spec b1 ?_
      simp only [ev_add, w1]
      exact ⟨⟨i + 1, _, rfl, by omega, by omega, e1.upd hn, Heap.has_upd b1.lt _ _, hc _ _ q1⟩, by omega⟩
    · rw [if_neg h2]
      refine tick_spec b1 ?_
      simp only [ev_add, w1]
      exact ⟨⟨i + 1, _, rfl, by omega, by omega, e1.upd hn, Heap.has_upd b1.lt _ _, ht _ q1⟩, by omega⟩
  · rw [if_neg hi]
    exact H _ _ e1 b1 q1

def W.Full (a2 : Int) (s : W) : Prop := s.want = a2 ∧ s.done = s.over
theorem W.look_done (s : W) : s.look.done = s.look.over := rfl
theorem W.Full.come {a2 : Int} (s : W) (n : Int) (f : s.Full a2) : (s.come n).Full a2 := by
  unfold W.come
  split
  · exact f
  · exact ⟨f.1, rfl⟩
theorem W.Full.tick {a2 : Int} (s : W) (f : s.Full a2) : s.tick.Full a2 := by
  unfold W.tick
  split
  · exact f
  · split
    · exact ⟨f.1, rfl⟩
    · exact ⟨f.1, rfl⟩

theorem more_spec {h : Heap} {x3 x4 : Value} {y z : List Int} {R : Value → Heap → Prop} {a0 a1 a2 : Int} (h0 : 0 ≤ a0 ∧ a0 < 256) (h1 : 0 ≤ a1 ∧ a1 < 256) (h2 : 0 ≤ a2 ∧ a2 < 65536) (hy : Nums .i64 h x3 y) (hz : Nums .i64 h x4 z) (H : ∀ h', Ext h h' → R (.bool true) h') :
    betonylaw20_PatienceMore_c (.int .u8 a0) (.int .u8 a1) (.int .u16 a2) x3 x4 h R := by
  apply betonylaw20_PatienceMore_runs
  unfold betonylaw20_PatienceMore_S
  have aw : ∀ (h' : Heap) (K : Value → Heap → Prop), (∀ h'', Ext h' h'' → K (.bool true) h'') → betonylaw20_awake_c h' K := fun h' K e => awake_spec e
  rw [hy.len]
  simp only [hz.len, ev_gt, ev_or_p, ev_if, Bool.or_eq_true, decide_eq_true_eq]
  by_cases hl : 40 < (y.length : Int) ∨ 40 < (z.length : Int)
  · rw [if_pos hl]; exact aw _ _ H
  rw [if_neg hl]
  simp only [ev_conv]
  rw [wrap_i64 (x := a0) (by omega) (by omega), wrap_i64 (x := a1) (by omega) (by omega), wrap_i64 (x := a2) (by omega) (by omega)]
  refine new_spec (fun x => (x (by unfold W.fit; omega)).elim) (fun _ h1 e1 b1 => ?_)
  simp only [ptr, ev_eqlNil, ev_if, Option.isNone_some, Bool.false_eq_true, if_false]
  refine step_spec (Q := W.Full a2) W.Full.come W.Full.tick hy (by omega) e1 (Nat.le_refl _) b1 ⟨rfl, rfl⟩ (fun s2 h2 e2 b2 q2 => ?_)
  refine done_spec b2 ?_
  simp only [ev_not, ev_if]
  cases hd : s2.done with
  | false =>
    simp only [Bool.not_false, if_true]
    refine count_spec b2 ?_
    have q := q2.2
    rw [hd] at q
    have q3 : ¬ (s2.want = 0 ∨ s2.want ≤ s2.there) := fun x => by unfold W.over at q; rw [if_pos x] at q; cases q
    have q4 := q2.1
    have c : (if s2.want < s2.there then s2.want else s2.there) = s2.there := by split <;> omega
    rw [c]
    simp only [ev_max, ev_lt]
    have d : decide (s2.there < if (1 : Int) < a2 then a2 else 1) = true := by rw [decide_eq_true_eq]; split <;> omega
    rw [d]
    simp only [ev_andh, if_true]
    exact aw _ _ fun h3 e3 => H _ (e2.trans e3)
  | true =>
    simp only [Bool.not_true, Bool.false_eq_true, if_false]
    refine count_spec b2 ?_
    refine step_spec (Q := fun s => s = s2) (fun s n e => by subst e; unfold W.come; rw [if_pos (.inl hd)]) (fun s e => by subst e; unfold W.tick; rw [if_pos hd]) hz (by omega) e2 (Nat.le_refl _) b2 rfl (fun s3 h3 e3 b3 q3 => ?_)
    subst q3
    refine done_spec b3 ?_
    rw [hd]
    simp only [ev_andh, if_true]
    refine count_spec b3 ?_
    simp only [ev_eq, beq_self_eq_true, ev_andh, if_true]
    exact aw _ _ fun h4 e4 => H _ (e3.trans e4)

structure W.Run (a0 a1 a2 a3 : Int) (i : Int) (s : W) : Prop where
  least : s.least = a0
  time : s.time = a1
  want : s.want = a2
  there : s.there = a3
  on : s.done = true ∨ (s.quiet = i ∧ s.done = s.over)

theorem W.Run.tick {a0 a1 a2 a3 i : Int} {s : W} (h : 0 < a0 → a3 ≠ 0) (h0 : 0 ≤ a0) (h3 : 0 ≤ a3) (i0 : 0 ≤ i) (i1 : i < 256) (r : s.Run a0 a1 a2 a3 i) : s.tick.Run a0 a1 a2 a3 (i + 1) := by
  obtain ⟨r0, r1, r2, r3, r4⟩ := r
  unfold W.tick
  by_cases hd : s.done = true
  · rw [if_pos hd]; exact ⟨r0, r1, r2, r3, .inl hd⟩
  · rw [if_neg hd, if_pos (by omega)]
    rcases r4 with r4 | r4
    · exact (hd r4).elim
    · have w : IntKind.i64.wrap (s.quiet + 1) = s.quiet + 1 := wrap_i64 (by omega) (by omega)
      exact ⟨r0, r1, r2, r3, .inr ⟨by show IntKind.i64.wrap (s.quiet + 1) = i + 1; rw [w, r4.1], rfl⟩⟩

theorem ends_spec {h : Heap} {R : Value → Heap → Prop} {a0 a1 a2 a3 : Int} (h0 : 0 ≤ a0 ∧ a0 < 256) (h1 : 0 ≤ a1 ∧ a1 < 256) (h2 : 0 ≤ a2 ∧ a2 < 65536) (h3 : 0 ≤ a3 ∧ a3 < 256) (H : ∀ h', Ext h h' → R (.bool true) h') :
    betonylaw20_PatienceEnds_c (.int .u8 a0) (.int .u8 a1) (.int .u16 a2) (.int .u8 a3) h R := by
  apply betonylaw20_PatienceEnds_runs
  unfold betonylaw20_PatienceEnds_S
  have aw : ∀ (h' : Heap) (K : Value → Heap → Prop), (∀ h'', Ext h' h'' → K (.bool true) h'') → betonylaw20_awake_c h' K := fun h' K e => awake_spec e
  have w0 : IntKind.i64.wrap a0 = a0 := wrap_i64 (by omega) (by omega)
  have w1 : IntKind.i64.wrap a1 = a1 := wrap_i64 (by omega) (by omega)
  have w2 : IntKind.i64.wrap a2 = a2 := wrap_i64 (by omega) (by omega)
  have w3 : IntKind.i64.wrap a3 = a3 := wrap_i64 (by omega) (by omega)
  simp only [ev_conv, w0, w1, w2, w3]
  refine new_spec (fun x => (x (by unfold W.fit; omega)).elim) (fun _ h1' e1 b1 => ?_)
  simp only [ptr, ev_eqlNil, ev_if, Option.isNone_some, Bool.false_eq_true, if_false, ev_eq, beq_iff_eq]
  by_cases c2 : a2 = 0
  · rw [if_pos c2]
    refine done_spec b1 ?_
    have d : (W.new a0 a1 a2 a3).done = true := by
      show W.over _ = true
      unfold W.over
      rw [if_pos (.inl c2)]
    rw [d]
    simp only [ev_andh, if_true]
    refine count_spec b1 ?_
    have c : (if (W.new a0 a1 a2 a3).want < (W.new a0 a1 a2 a3).there then (W.new a0 a1 a2 a3).want else (W.new a0 a1 a2 a3).there) = 0 := by
      show (if a2 < a3 then a2 else a3) = 0
      split <;> omega
    rw [c]
    simp only [ev_eq, beq_self_eq_true, ev_andh, if_true]
    exact aw _ _ fun h4 e4 => H _ (e1.trans e4)
  · rw [if_neg c2]
    simp only [ev_gt, ev_eq, ev_and_p, ev_or_p, ev_if, Bool.or_eq_true, Bool.and_eq_true, decide_eq_true_eq, beq_iff_eq]
    by_cases c3 : a1 = 0 ∨ (0 < a0 ∧ a3 = 0)
    · rw [if_pos c3]
      exact aw _ _ fun h4 e4 => H _ (e1.trans e4)
    rw [if_neg c3]
    have hne : 0 < a0 → a3 ≠ 0 := fun x y => c3 (.inr ⟨x, y⟩)
    refine ⟨fun v h' => ∃ (i : Int) (s : W), v = .int .i64 i ∧ 0 ≤ i ∧ i ≤ a1 ∧ Ext h h' ∧ h'.has h.size s.enc 82 ∧ s.Run a0 a1 a2 a3 i, fun v _ => match v with | .int _ i => (256 - i).toNat | _ => 0, ⟨0, _, rfl, by omega, by omega, e1, b1, ⟨rfl, rfl, rfl, rfl, .inr ⟨rfl, rfl⟩⟩⟩, ?_⟩
    rintro _ h5 ⟨i, s, rfl, i0, i1, e5, b5, r⟩
    unfold betonylaw20_PatienceEnds_l1
    simp only [ev_conv, w1, w2, w3, ev_lt, ev_if, decide_eq_true_eq]
    by_cases hi : i < a1
    · rw [if_pos hi]
      refine tick_spec b5 ?_
      have w5 : IntKind.i64.wrap (i + 1) = i + 1 := wrap_i64 (by omega) (by omega)
      simp only [ev_add, w5]
      exact ⟨⟨i + 1, _, rfl, by omega, by omega, e5.upd (Nat.le_refl _), Heap.has_upd b5.lt _ _, r.tick hne h0.1 h3.1 i0 (by omega)⟩, by omega⟩
    · rw [if_neg hi]
      have ei : i = a1 := by omega
      subst ei
      obtain ⟨r0, r1, r2, r3, r4⟩ := r
      have d : s.done = true := by
        rcases r4 with r4 | r4
        · exact r4
        · rw [r4.2]
          unfold W.over W.late
          rw [r0, r1, r2, r3, r4.1]
          have t0 : 0 < i := by omega
          by_cases k1 : a2 = 0 ∨ a2 ≤ a3
          · rw [if_pos k1]
          · rw [if_neg k1]
            by_cases k2 : 0 < a0
            · have : 0 < a3 := by have := hne k2; omega
              simp [k2, t0, this]
            · simp [k2, t0]
      refine done_spec b5 ?_
      rw [d]
      simp only [ev_andh, if_true]
      refine count_spec b5 ?_
      rw [r2, r3]
      simp only [ev_min, ev_eq, beq_self_eq_true, ev_andh, if_true]
      exact aw _ _ fun h4 e4 => H _ (e5.trans e4)
end Go.Proofs.Ytecoejjpdogklaa
