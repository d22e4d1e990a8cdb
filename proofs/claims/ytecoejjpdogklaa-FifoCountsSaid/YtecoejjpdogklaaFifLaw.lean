/- FifoKeeps and FifoCounts, on the abstract row. -/
import Derived.Test.YtecoejjpdogklaaFif
import Derived.Test.YtecoejjpdogklaaFbetonylaw07FifoKeeps
import Derived.Test.YtecoejjpdogklaaFbetonylaw07FifoCounts
set_option linter.unusedSimpArgs false
namespace Go.Proofs.Ytecoejjpdogklaa
open Go Go.HW

/-- The row is new to h0. -/
structure QOwn (h0 h : Heap) (b : Nat) (k : Option Nat) (q : Qu) : Prop where
  ext : Ext h0 h
  «at» : QAt h b k q
  b : h0.size ≤ b
  k : ∀ c, k = some c → h0.size ≤ c

section
variable {h0 h : Heap} {R : Value → Heap → Prop} {b : Nat} {k : Option Nat} {q : Qu}
theorem QOwn.ext' (a : QOwn h0 h b k q) {h' : Heap} (e : Ext h h') : QOwn h0 h' b k q := ⟨a.ext.trans e, a.at.ext e, a.b, a.k⟩
theorem put_own {x : Int} (a : QOwn h0 h b k q) (hl : q.l.length ≤ 1000) (hlost : 0 ≤ q.lost ∧ q.lost ≤ 1000)
    (H : ∀ k' h', QOwn h0 h' b k' (q.put x).1 → (k' = k ∨ ∃ c, k' = some c ∧ h.size ≤ c) → Chg (fun i => i = b ∨ some i = k) h h' → R (.bool (q.put x).2) h') : fifo_Queue_Put_c (ptr b 0) (.int .i64 x) h R := by
  refine put_spec a.at hl hlost (fun k' h' a' hk c => H k' h' ⟨?_, a', a.b, ?_⟩ hk c)
  · refine a.ext.chg_trans c fun i hi => ?_
    rcases hi with rfl | hi
    · exact a.b
    · exact a.k i hi.symm
  · intro c' hc'
    rcases hk with e | ⟨c'', e, hc''⟩
    · exact a.k c' (by rw [← e, hc'])
    · rw [e] at hc'; cases hc'; have := a.ext.size; omega
theorem take_own (a : QOwn h0 h b k q) (H0 : q.l = [] → R (.tuple #[.int .i64 0, .bool false]) h)
    (H : ∀ e r h', q.l = e :: r → QOwn h0 h' b k { q with l := r } → Chg (fun i => i = b) h h' → R (.tuple #[.int .i64 e.1, .bool true]) h') : fifo_Queue_Take_c (ptr b 0) h R := by
  refine take_spec a.at H0 (fun e r h' hq a' c => H e r h' hq ⟨a.ext.chg_trans c fun i hi => by rw [hi]; exact a.b, a', a.b, a.k⟩ c)
theorem clear_own (a : QOwn h0 h b k q) (H : ∀ h', QOwn h0 h' b none { q with l := [] } → R unit h') : fifo_Queue_Clear_c (ptr b 0) h R := by
  refine clear_spec a.at (fun h' a' c => H h' ⟨a.ext.chg_trans c fun i hi => by rw [hi]; exact a.b, a', a.b, by simp⟩)

theorem awake07 (H : ∀ h', Ext h h' → R (.bool true) h') : betonylaw07_awake_c h R := by
  apply betonylaw07_awake_runs
  unfold betonylaw07_awake_S
  refine qnew_spec (fun x => (x (by omega)).elim) (fun _ b h1 hb e1 a1 => ?_)
  have a1 : QOwn h h1 b none ⟨1, 9, 0, []⟩ := ⟨e1, a1, hb, by simp⟩
  simp only [ptr, ev_neqNil, Option.isNone_some, Bool.not_false, ev_andh, if_true]
  refine put_own a1 (by decide) (by decide) (fun k2 h2 a2 _ _ => ?_)
  have p2 : Qu.put ⟨1, 9, 0, []⟩ 1 = (⟨1, 9, 0, [(1, false)]⟩, true) := rfl
  rw [p2] at a2 ⊢
  simp only [ev_andh, if_true]
  refine put_own a2 (by decide) (by decide) (fun k3 h3 a3 _ _ => ?_)
  have p3 : Qu.put ⟨1, 9, 0, [(1, false)]⟩ 2 = (⟨1, 9, 1, [(1, false)]⟩, false) := rfl
  rw [p3] at a3 ⊢
  simp only [ev_not, Bool.not_false, ev_andh, if_true]
  refine put_own a3 (by decide) (by decide) (fun k4 h4 a4 _ _ => ?_)
  have p4 : Qu.put ⟨1, 9, 1, [(1, false)]⟩ 9 = (⟨1, 9, 1, [(1, false), (9, true)]⟩, true) := rfl
  rw [p4] at a4 ⊢
  simp only [ev_andh, if_true]
  refine put_own a4 (by decide) (by decide) (fun k5 h5 a5 _ _ => ?_)
  have p5 : Qu.put ⟨1, 9, 1, [(1, false), (9, true)]⟩ 9 = (⟨1, 9, 2, [(1, false), (9, true)]⟩, false) := rfl
  rw [p5] at a5 ⊢
  simp only [ev_not, Bool.not_false, ev_andh, if_true]
  refine lost_spec a5.at ?_
  simp only [ev_eq, beq_self_eq_true, ev_andh, if_true]
  refine qnew_spec (fun _ => ?_) (fun x => by omega)
  simp only [ev_eqlNil, Option.isNone_none]
  exact H _ a5.ext

theorem room_eq {a : Int} (ha : 0 ≤ a ∧ a < 256) {K : Value → Prop} (H : K (.int .i64 (1 + a % 20))) : sConv .i64 (.int .u8 a) fun x21 => sRem .i64 x21 (.int .i64 20) fun x22 => sAdd .i64 (.int .i64 1) x22 K := by
  rw [ev_conv, wrap_i64 (by omega) (by omega), ev_rem (by decide), ev_add, Int.tmod_eq_emod_of_nonneg ha.1, wrap_i64 (by omega) (by omega)]
  exact H

theorem Qu.put_cases (q : Qu) (x : Int) : (∃ f, q.put x = ({ q with l := q.l ++ [(x, f)] }, true)) ∨ q.put x = ({ q with lost := q.lost + 1 }, false) := by
  unfold Qu.put
  split
  · exact .inl ⟨_, rfl⟩
  · split
    · exact .inl ⟨_, rfl⟩
    · exact .inr rfl

def encA (e : Int × Int) : List Value := [.int .i64 e.1, .int .i64 e.2]
theorem counts_law {x2 : Value} {l : List (Int × Int)} {a kept : Int} (ha : 0 ≤ a ∧ a < 256) (hz : Seq encA 2 h x2 l) (H : ∀ h', Ext h h' → R (.bool true) h') : betonylaw07_FifoCounts_c (.int .u8 a) (.int .i64 kept) x2 h R := by
  apply betonylaw07_FifoCounts_runs
  unfold betonylaw07_FifoCounts_S
  rw [hz.len]
  simp only [ev_gt, ev_if, decide_eq_true_eq]
  by_cases hlen : 100 < (l.length : Int)
  · rw [if_pos hlen]; exact awake07 H
  rw [if_neg hlen]
  refine room_eq ha ?_
  refine qnew_spec (fun x => (x (by omega)).elim) (fun _ b h1 hb e1 a1 => ?_)
  have a1 : QOwn h h1 b none ⟨1 + a % 20, kept, 0, []⟩ := ⟨e1, a1, hb, by simp⟩
  simp only [ptr, ev_eqlNil, ev_if, Option.isNone_some, Bool.false_eq_true, if_false]
  refine ⟨fun s h' => ∃ (c t r : Int) (i : Nat) (k : Option Nat) (q : Qu), s = (.int .i64 c, .int .i64 t, .int .i64 r, .int .i64 i) ∧ i ≤ l.length ∧ QOwn h h' b k q ∧ c = t + r + q.l.length + q.lost ∧ 0 ≤ t ∧ 0 ≤ r ∧ 0 ≤ q.lost ∧ c ≤ i,
    fun s _ => match s.2.2.2 with | .int _ i => (l.length - i).toNat | _ => 0, ⟨0, 0, 0, 0, none, _, rfl, by omega, a1, rfl, by omega, by omega, Int.le_refl _, by omega⟩, ?_⟩
  rintro _ h2 ⟨c, t, r, i, k, q, rfl, hi, a2, hc, ht, hr, hlost, hci⟩
  simp only []
  unfold betonylaw07_FifoCounts_l1
  have z2 := hz.ext a2.ext
  rw [hz.len]
  simp only [ev_lt, ev_if, decide_eq_true_eq]
  by_cases hlt : (i : Int) < l.length
  · rw [if_pos hlt]
    have wi : IntKind.i64.wrap ((i : Int) + 1) = ((i + 1 : Nat) : Int) := by rw [wrap_i64 (by omega) (by omega)]; rfl
    have hm : (l.length - ((i + 1 : Nat) : Int)).toNat < (l.length - (i : Int)).toNat := by omega
    have fin : ∀ (c' t' r' : Int) (k' : Option Nat) (q' : Qu) (h' : Heap), QOwn h h' b k' q' → c' = t' + r' + q'.l.length + q'.lost → 0 ≤ t' → 0 ≤ r' → 0 ≤ q'.lost → c' ≤ i + 1 →
        betonylaw07_FifoCounts_j2 R (fun x8' x9' x10' x11' h' => (∃ (c t r : Int) (i : Nat) (k : Option Nat) (q : Qu), (x8', x9', x10', x11') = ((.int .i64 c, .int .i64 t, .int .i64 r, .int .i64 i) : Value × Value × Value × Value) ∧ i ≤ l.length ∧ QOwn h h' b k q ∧ c = t + r + q.l.length + q.lost ∧ 0 ≤ t ∧ 0 ≤ r ∧ 0 ≤ q.lost ∧ c ≤ i) ∧ (match x11' with | .int _ i => (l.length - i).toNat | _ => 0) < (l.length - (i : Int)).toNat) (ptr b 0) (.int .i64 i) (.int .i64 c') (.int .i64 t') (.int .i64 r') h' := by
      intro c' t' r' k' q' h' a' e1 e2 e3 e4 e5
      unfold betonylaw07_FifoCounts_j2
      rw [ev_add]
      refine len_spec a'.at ?_
      rw [ev_add]
      refine lost_spec a'.at ?_
      have w1 : IntKind.i64.wrap (t' + r') = t' + r' := wrap_i64 (by omega) (by omega)
      have w2 : IntKind.i64.wrap (t' + r' + q'.l.length) = t' + r' + q'.l.length := wrap_i64 (by omega) (by omega)
      have w3 : IntKind.i64.wrap (t' + r' + q'.l.length + q'.lost) = c' := by rw [wrap_i64 (by omega) (by omega)]; exact e1.symm
      simp only [ev_add, w1, w2, w3, ev_ne, bne_self_eq_false, ev_if, Bool.false_eq_true, if_false, wi]
      exact ⟨⟨c', t', r', i + 1, k', q', rfl, by omega, a', e1, e2, e3, e4, by omega⟩, hm⟩
    have g : l[i]? = some (l[i]'(by omega)) := by simp
    generalize l[i]'(by omega) = p at g
    obtain ⟨bb, oo, g1, g2, g3⟩ := z2.ix g
    rw [g3, ev_off, g2.ld (i := 0) (u := .int .i64 p.1) rfl]
    simp only [ev_eq, ev_if, beq_iff_eq]
    have hql : q.l.length ≤ 1000 := by omega
    by_cases c0 : p.1 = 0
    · rw [if_pos c0, g3, ev_off, g2.ld (i := 1) (u := .int .i64 p.2) rfl]
      refine put_own a2 hql (by omega) (fun k' h' a' _ _ => ?_)
      rw [ev_add, wrap_i64 (by omega) (by omega)]
      rcases q.put_cases p.2 with ⟨f, e⟩ | e
      · rw [e] at a'
        exact fin _ _ _ _ _ _ a' (by simp only [List.length_append, List.length_singleton]; omega) ht hr hlost (by omega)
      · rw [e] at a'
        exact fin _ _ _ _ _ _ a' (by simp only []; omega) ht hr (by simp only []; omega) (by omega)
    · rw [if_neg c0]
      by_cases c1 : p.1 = 1
      · rw [if_pos c1]
        refine take_own a2 (fun hq => ?_) (fun e r' h' hq a' _ => ?_)
        · simp only [ev_tup, List.getElem?_toArray, List.getElem?_cons_succ, List.getElem?_cons_zero, ev_if, Bool.false_eq_true, if_false]
          exact fin _ _ _ _ _ _ a2 hc ht hr hlost (by omega)
        · have w : IntKind.i64.wrap (t + 1) = t + 1 := wrap_i64 (by omega) (by omega)
          simp only [ev_tup, List.getElem?_toArray, List.getElem?_cons_succ, List.getElem?_cons_zero, ev_if, if_true, ev_add, w]
          rw [hq] at hc
          exact fin _ _ _ _ _ _ a' (by simp only [List.length_cons] at hc ⊢; omega) (by omega) hr hlost (by omega)
      · rw [if_neg c1]
        by_cases c2 : p.1 = 2
        · rw [if_pos c2]
          refine len_spec a2.at ?_
          rw [ev_add, wrap_i64 (by omega) (by omega)]
          refine clear_own a2 (fun h' a' => ?_)
          exact fin _ _ _ _ _ _ a' (by simp only [List.length_nil]; omega) ht (by omega) hlost (by omega)
        · rw [if_neg c2]
          exact fin _ _ _ _ _ _ a2 hc ht hr hlost (by omega)
  · rw [if_neg hlt]
    exact awake07 fun h3 e3 => H _ (a2.ext.trans e3)
end
end Go.Proofs.Ytecoejjpdogklaa
