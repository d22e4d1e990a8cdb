/- FifoKeeps: a kept number is never lost, and all are taken as they came. -/
import Derived.Test.YtecoejjpdogklaaFifLaw
set_option linter.unusedSimpArgs false
namespace Go.Proofs.Ytecoejjpdogklaa
open Go Go.HW

/-- What holds of the row while numbers are put. -/
structure KI (a kept : Int) (z : List Int) (i : Nat) (n : Int) (q : Qu) : Prop where
  room : q.room = 1 + a % 20
  kpt : q.kept = kept
  lost0 : 0 ≤ q.lost
  lost1 : q.lost ≤ i
  len : q.l.length ≤ i
  plain : q.plain ≤ 1 + a % 20
  n0 : 0 ≤ n
  n1 : n ≤ i
  smw : 0 < n ↔ (z.take i).any (fun x => x == kept) = true
  aw : q.any = true → 0 < n

theorem take_any {z : List Int} {i : Nat} {x kept : Int} (g : z[i]? = some x) : (z.take (i + 1)).any (fun y => y == kept) = ((z.take i).any (fun y => y == kept) || x == kept) := by
  rw [List.take_add_one, g, List.any_append]; simp

theorem KI.put {a kept : Int} {z : List Int} {i : Nat} {n : Int} {q : Qu} {x : Int} (t : KI a kept z i n q) (g : z[i]? = some x) :
    (q.put x).2 = true → KI a kept z (i + 1) (if x = kept then n + 1 else n) (q.put x).1 ∧ (q.put x).1.l.map Prod.fst = q.l.map Prod.fst ++ [x] := by
  obtain ⟨t1, t2, t3, t4, t5, t6, t7, t8, t9, t10⟩ := t
  unfold Qu.put
  have hsome : 0 < (if x = kept then n + 1 else n) ↔ (z.take (i + 1)).any (fun y => y == kept) = true := by
    rw [take_any g, Bool.or_eq_true, ← t9, beq_iff_eq]
    split <;> omega
  split
  · rename_i hp
    intro _
    have hany : Qu.any { q with l := q.l ++ [(x, false)] } = q.any := by simp [Qu.any]
    refine ⟨⟨t1, t2, t3, by simp only []; omega, by simp only [List.length_append, List.length_singleton]; omega, ?_, by split <;> omega, by split <;> omega, hsome, fun hx => ?_⟩, by simp⟩
    · unfold Qu.plain at hp ⊢
      rw [hany]
      simp only [List.length_append, List.length_singleton]
      omega
    · rw [hany] at hx
      have := t10 hx
      split <;> omega
  · rename_i hp
    split
    · rename_i hk
      intro _
      have hany : Qu.any { q with l := q.l ++ [(x, true)] } = true := by simp [Qu.any]
      refine ⟨⟨t1, t2, t3, by simp only []; omega, by simp only [List.length_append, List.length_singleton]; omega, ?_, by split <;> omega, by split <;> omega, hsome, fun hx => ?_⟩, by simp⟩
      · unfold Qu.plain at t6 ⊢
        rw [hany]
        rw [hk.2] at t6
        simp only [List.length_append, List.length_singleton]
        simp at t6 ⊢
        omega
      · rw [if_pos (by rw [hk.1, t2])]; omega
    · intro h; cases h
theorem KI.lose {a kept : Int} {z : List Int} {i : Nat} {n : Int} {q : Qu} {x : Int} (t : KI a kept z i n q) (g : z[i]? = some x) (h : (q.put x).2 = false) : KI a kept z (i + 1) n (q.put x).1 ∧ (q.put x).1.l = q.l := by
  obtain ⟨t1, t2, t3, t4, t5, t6, t7, t8, t9, t10⟩ := t
  unfold Qu.put at h ⊢
  split at h
  · cases h
  · rename_i hp
    split at h
    · cases h
    · rename_i hk
      rw [if_neg hp, if_neg hk]
      refine ⟨⟨t1, t2, by simp only []; omega, by simp only []; omega, by simp only []; omega, t6, t7, by omega, ?_, t10⟩, rfl⟩
      rw [take_any g, Bool.or_eq_true, ← t9, beq_iff_eq]
      constructor
      · exact .inl
      · rintro (y | y)
        · exact y
        · apply t10
          have : ¬ q.any = false := fun e => hk ⟨by rw [t2]; exact y, e⟩
          simpa using this

section
variable {h : Heap} {R : Value → Heap → Prop}
theorem keeps_law {x2 : Value} {z : List Int} {a kept : Int} (ha : 0 ≤ a ∧ a < 256) (hz : Ints .i64 h x2 z) (H : ∀ h', Ext h h' → R (.bool true) h') : betonylaw07_FifoKeeps_c (.int .u8 a) (.int .i64 kept) x2 h R := by
  apply betonylaw07_FifoKeeps_runs
  unfold betonylaw07_FifoKeeps_S
  rw [hz.len]
  simp only [ev_gt, ev_if, decide_eq_true_eq]
  by_cases hlen : 60 < (z.length : Int)
  · rw [if_pos hlen]; exact awake07 H
  rw [if_neg hlen]
  refine room_eq ha ?_
  refine qnew_spec (fun x => (x (by omega)).elim) (fun _ b h1 hb e1 a1 => ?_)
  have a1 : QOwn h h1 b none ⟨1 + a % 20, kept, 0, []⟩ := ⟨e1, a1, hb, by simp⟩
  simp only [ptr, ev_eqlNil, ev_if, Option.isNone_some, Bool.false_eq_true, if_false]
  refine ⟨fun s h' => ∃ (n : Int) (v : Value) (i : Nat) (k kin : Option Nat) (q : Qu), s = (.int .i64 n, v, .int .i64 i) ∧ i ≤ z.length ∧ QOwn h h' b k q ∧ KI a kept z i n q ∧ OwnI .i64 h' kin v (q.l.map Prod.fst) ∧ (∀ c, kin = some c → h.size ≤ c ∧ c ≠ b ∧ k ≠ some c),
    fun s _ => match s.2.2 with | .int _ i => (z.length - i).toNat | _ => 0, ⟨0, _, 0, none, none, _, rfl, by omega, a1, ⟨rfl, rfl, Int.le_refl _, Int.le_refl _, Nat.le_refl _, ?_, Int.le_refl _, Int.le_refl _, by simp, by simp [Qu.any]⟩, .nil, by simp⟩, ?_⟩
  · simp [Qu.plain, Qu.any]; omega
  rintro _ h2 ⟨n, v, i, k, kin, q, rfl, hi, a2, ki, o2, hkin⟩
  simp only []
  unfold betonylaw07_FifoKeeps_l1 betonylaw07_FifoKeeps_j2
  rw [hz.len]
  simp only [ev_lt, ev_if, decide_eq_true_eq]
  have gt : ∀ {h3 : Heap} {j : Nat} {K : Value → Prop}, Ext h h3 → j < z.length → sIxS x2 (.int .i64 j) 1 (fun p => sLd h3 p K) = K (.int .i64 (z.getD j 0)) := fun e hj => Ints.get (hz.ext e) hj _
  by_cases hlt : (i : Int) < z.length
  · rw [if_pos hlt]
    have wi : IntKind.i64.wrap ((i : Int) + 1) = ((i + 1 : Nat) : Int) := by rw [wrap_i64 (by omega) (by omega)]; rfl
    have hm : (z.length - ((i + 1 : Nat) : Int)).toNat < (z.length - (i : Int)).toNat := by omega
    have g : z[i]? = some (z.getD i 0) := by simp [List.getD_eq_getElem?_getD, show i < z.length by omega]
    rw [gt a2.ext (by omega)]
    have gt' : ∀ {h3 : Heap} {K : Value → Prop}, Ext h h3 → sIxS x2 (.int .i64 i) 1 (fun p => sLd h3 p K) = K (.int .i64 (z.getD i 0)) := fun e => gt e (by omega)
    generalize z.getD i 0 = x at g gt'
    have l1 := ki.lost1
    have l2 := ki.len
    have l3 := ki.lost0
    refine put_own a2 (by omega) (by omega) (fun k3 h3 a3 hk3 c3 => ?_)
    have o3 : OwnI .i64 h3 kin v (q.l.map Prod.fst) := o2.chg c3 fun c hc y => by
      obtain ⟨y1, y2, y3⟩ := hkin c hc
      rcases y with y | y
      · exact y2 y
      · exact y3 y.symm
    have hkin3 : ∀ c, kin = some c → h.size ≤ c ∧ c ≠ b ∧ k3 ≠ some c := fun c hc => by
      obtain ⟨y1, y2, y3⟩ := hkin c hc
      refine ⟨y1, y2, fun e => ?_⟩
      rcases hk3 with e' | ⟨c', e', hc'⟩
      · exact y3 (e' ▸ e)
      · rw [e'] at e; cases e
        have := o2.lt hc; omega
    rw [ev_if]
    by_cases hput : (q.put x).2 = true
    · rw [if_pos hput, gt' a3.ext]
      obtain ⟨ki', hmap⟩ := ki.put g hput
      refine slit_intro (enc := encI .i64) (sz := 1) (encI_len _) [x] rfl ⟨rfl, Nat.le_of_ble_eq_true rfl, rfl⟩ (fun k4 v4 h4 hk4 e4 o4 => ?_)
      refine app_intro (enc := encI .i64) (sz := 1) rfl (by decide) (encI_len _) (encI_cell _) (o3.ext e4) o4.seq (by simp only [List.length_singleton, List.length_map]; omega) (by decide) (fun k5 v5 h5 o5 hk5 c5 => ?_)
      have a5 : QOwn h h5 b k3 (q.put x).1 := by
        have a4 := a3.ext' e4
        refine ⟨a4.ext.chg_trans c5 fun c hc => (hkin3 c hc.symm).1, a4.at.chg c5 (fun y => (hkin3 b y.symm).2.1 rfl) (fun c hc y => (hkin3 c y.symm).2.2 hc), a4.b, a4.k⟩
      have hkin5 : ∀ c, k5 = some c → h.size ≤ c ∧ c ≠ b ∧ k3 ≠ some c := fun c hc => by
        rcases hk5 with e | e
        · exact hkin3 c (e ▸ hc)
        · rw [e] at hc; cases hc
          have s3 := a3.ext.size
          have s4 := e4.size
          obtain ⟨vq, hq1, hq2⟩ := a3.at.ex
          have := hq1.lt
          refine ⟨by omega, by omega, fun y => ?_⟩
          have := hq2.lt y
          omega
      rw [← hmap] at o5
      rw [gt' a5.ext]
      simp only [ev_eq, ev_if, beq_iff_eq]
      by_cases hxk : x = kept
      · rw [if_pos hxk] at ki' ⊢
        have n0 := ki.n0
        have n1 := ki.n1
        have wn : IntKind.i64.wrap (n + 1) = n + 1 := wrap_i64 (by omega) (by omega)
        rw [ev_add, wn, ev_add, wi]
        exact ⟨⟨n + 1, v5, i + 1, k3, k5, _, rfl, by omega, a5, ki', o5, hkin5⟩, hm⟩
      · rw [if_neg hxk] at ki' ⊢
        rw [ev_add, wi]
        exact ⟨⟨n, v5, i + 1, k3, k5, _, rfl, by omega, a5, ki', o5, hkin5⟩, hm⟩
    · obtain ⟨ki', hl⟩ := ki.lose g (by simpa using hput)
      rw [if_neg hput, ev_add, wi]
      exact ⟨⟨n, v, i + 1, k3, kin, _, rfl, by omega, a3, ki', by rw [hl]; exact o3, hkin3⟩, hm⟩
  · rw [if_neg hlt]
    have hi : i = z.length := by omega
    subst hi
    obtain ⟨t1, t2, t3, t4, t5, t6, t7, t8, t9, t10⟩ := ki
    rw [List.take_length] at t9
    refine ⟨fun s h' => ∃ i : Nat, s = (.bool ((z.take i).any fun y => y == kept), .int .i64 i) ∧ i ≤ z.length ∧ h' = h2, fun s _ => match s.2 with | .int _ i => (z.length - i).toNat | _ => 0, ⟨0, rfl, by omega, rfl⟩, ?_⟩
    rintro _ h3 ⟨i, rfl, hi, rfl⟩
    simp only []
    unfold betonylaw07_FifoKeeps_l3
    rw [hz.len]
    simp only [ev_lt, ev_if, decide_eq_true_eq]
    by_cases hlt : (i : Int) < z.length
    · rw [if_pos hlt]
      have wi : IntKind.i64.wrap ((i : Int) + 1) = ((i + 1 : Nat) : Int) := by rw [wrap_i64 (by omega) (by omega)]; rfl
      have g : z[i]? = some (z.getD i 0) := by simp [List.getD_eq_getElem?_getD, show i < z.length by omega]
      simp only [gt a2.ext (show i < z.length by omega), ev_eq, ev_or_p, ev_add, wi]
      exact ⟨⟨i + 1, by rw [take_any g], by omega, trivial⟩, by omega⟩
    · rw [if_neg hlt]
      have hi : i = z.length := by omega
      subst hi
      rw [List.take_length]
      have hs : (z.any (fun y => y == kept) == decide (0 < n)) = true := by
        rw [beq_iff_eq, Bool.eq_iff_iff, decide_eq_true_eq]; exact t9.symm
      simp only [ev_gt, ev_neqB, hs, Bool.not_true, ev_orh, Bool.false_eq_true, if_false]
      refine len_spec a2.at ?_
      have hroom : ¬ (2 + a % 20 < (q.l.length : Int)) := by
        unfold Qu.plain at t6
        split at t6 <;> omega
      rw [ev_conv, wrap_i64 (by omega) (by omega), ev_rem (by decide), ev_add, Int.tmod_eq_emod_of_nonneg ha.1, wrap_i64 (by omega) (by omega), ev_gt]
      simp only [hroom, decide_false, ev_if, Bool.false_eq_true, if_false]
      refine ⟨fun s h' => ∃ i : Nat, s = .int .i64 i ∧ i ≤ q.l.length ∧ QOwn h h' b k { q with l := q.l.drop i } ∧ OwnI .i64 h' kin v (q.l.map Prod.fst), fun s _ => match s with | .int _ i => (q.l.length - i).toNat | _ => 0, ⟨0, rfl, by omega, by simpa using a2, o2⟩, ?_⟩
      rintro _ h4 ⟨i, rfl, hi, a4, o4⟩
      unfold betonylaw07_FifoKeeps_l4
      rw [o4.seq.len, List.length_map]
      simp only [ev_lt, ev_if, decide_eq_true_eq]
      by_cases hlt : (i : Int) < q.l.length
      · rw [if_pos hlt]
        have hd : q.l.drop i = q.l[i]'(by omega) :: q.l.drop (i + 1) := List.drop_eq_getElem_cons (by omega)
        refine take_own a4 (fun hq => ?_) (fun e r h5 hq a5 c5 => ?_)
        · have hq : q.l.drop i = [] := hq
          rw [hd] at hq; cases hq
        · have hq : q.l.drop i = e :: r := hq
          rw [hd] at hq
          have he : (q.l.map Prod.fst)[i]? = some e.1 := by
            rw [List.getElem?_map, List.getElem?_eq_getElem (by omega)]
            cases hq; rfl
          have hr : r = q.l.drop (i + 1) := by cases hq; rfl
          subst hr
          have o5 : OwnI .i64 h5 kin v (q.l.map Prod.fst) := o4.chg c5 fun c hc y => (hkin c hc).2.1 y
          have wi : IntKind.i64.wrap ((i : Int) + 1) = ((i + 1 : Nat) : Int) := by rw [wrap_i64 (by omega) (by omega)]; rfl
          have ge : ∀ {K : Value → Prop}, sIxS v (.int .i64 i) 1 (fun p => sLd h5 p K) = K (.int .i64 e.1) := Seq.ld o5.seq he rfl _
          simp only [ev_tup, List.getElem?_toArray, List.getElem?_cons_succ, List.getElem?_cons_zero, ev_not, Bool.not_true, ge, ev_ne, bne_self_eq_false, ev_or_p, Bool.or_self, ev_if, Bool.false_eq_true, if_false, ev_add, wi]
          exact ⟨⟨i + 1, rfl, by omega, a5, o5⟩, by omega⟩
      · rw [if_neg hlt]
        refine len_spec a4.at ?_
        have : q.l.drop i = [] := List.drop_eq_nil_of_le (by omega)
        simp only [this, List.length_nil, ev_eq]
        rw [show ((((0 : Nat) : Int) == 0)) = true from rfl]
        simp only [ev_andh, if_true]
        exact awake07 fun h5 e5 => H _ (a4.ext.trans e5)
end
end Go.Proofs.Ytecoejjpdogklaa
