/- Widths of runes: the tables, the search, both answers. -/
import Derived.Test.YtbgipcikkedloaaDoorHwBits
import Derived.Test.YtbgipcikkedloaaDoorHwLaid
import Derived.Test.YtbgipcikkedloaaDoorHwCat
import Derived.Test.YtbgipcikkedloaaDoorRows
import Derived.Test.YtbgipcikkedloaaDoorFwideWidth
import Derived.Test.YtbgipcikkedloaaDoorFwidein
import Derived.Test.YtbgipcikkedloaaDoorFwidein1
import Derived.Test.YtbgipcikkedloaaDoorFslicesBinarySearchFuncwiderowwiderowrune
import Derived.Test.YtbgipcikkedloaaDoorFbetonyref03in
import Derived.Test.YtbgipcikkedloaaDoorFbetonyref03Width
set_option linter.unusedSimpArgs false
namespace Go.Proofs.YtbgipcikkedloaaDoor
open Go Go.HW

abbrev Row := Int × Int
def encR (p : Row) : List Value := [.int .i32 p.1, .int .i32 p.2]
theorem encR_len (p : Row) : (encR p).length = 2 := rfl
def marks : List Row := [(0x300, 0x36f), (0x483, 0x489), (0x591, 0x5bd), (0x610, 0x61a), (0x64b, 0x65f), (0x200b, 0x200f), (0x20d0, 0x20f0), (0xfe00, 0xfe0f), (0xfe20, 0xfe2f)]
def wides : List Row := [(0x1100, 0x115f), (0x2e80, 0x303e), (0x3041, 0x33ff), (0x3400, 0x4dbf), (0x4e00, 0x9fff), (0xa000, 0xa4cf), (0xac00, 0xd7a3), (0xf900, 0xfaff), (0xfe30, 0xfe6f), (0xff00, 0xff60), (0xffe0, 0xffe6), (0x1f300, 0x1f64f), (0x1f900, 0x1f9ff), (0x20000, 0x3fffd)]
def inT (T : List Row) (r : Int) : Bool := T.any fun p => decide (p.1 ≤ r) && decide (r ≤ p.2)
theorem inT_iff {T : List Row} {r : Int} : inT T r = true ↔ ∃ (j : Nat) (p : Row), T[j]? = some p ∧ p.1 ≤ r ∧ r ≤ p.2 := by
  simp only [inT, List.any_eq_true, Bool.and_eq_true, decide_eq_true_eq]
  constructor
  · rintro ⟨p, hp, x⟩
    obtain ⟨j, hj⟩ := List.mem_iff_getElem?.1 hp
    exact ⟨j, p, hj, x⟩
  · rintro ⟨j, p, hj, x⟩
    exact ⟨p, List.mem_of_getElem? hj, x⟩
/-- Rows that rise. -/
def rising : List Row → Bool
  | [] => true
  | p :: r => decide (p.1 ≤ p.2) && (r.all fun q => decide (p.2 < q.1)) && rising r
theorem rising_lt : ∀ {T : List Row}, rising T = true → ∀ {i j : Nat} {p q : Row}, i < j → T[i]? = some p → T[j]? = some q → p.2 < q.1
  | [], _, i, j, p, q, _, h, _ => by simp at h
  | a :: r, h, 0, j + 1, p, q, _, h1, h2 => by
    simp only [rising, Bool.and_eq_true, List.all_eq_true, decide_eq_true_eq] at h
    simp at h1 h2
    subst h1
    exact h.1.2 q (List.mem_of_getElem? h2)
  | a :: r, h, i + 1, j + 1, p, q, hij, h1, h2 => by
    simp only [rising, Bool.and_eq_true] at h
    exact rising_lt (i := i) (j := j) h.2 (by omega) (by simpa using h1) (by simpa using h2)
theorem rising_le : ∀ {T : List Row}, rising T = true → ∀ {i : Nat} {p : Row}, T[i]? = some p → p.1 ≤ p.2
  | a :: r, h, 0, p, h1 => by
    simp only [rising, Bool.and_eq_true, decide_eq_true_eq] at h
    simp at h1; subst h1; exact h.1.1
  | a :: r, h, i + 1, p, h1 => by
    simp only [rising, Bool.and_eq_true] at h
    exact rising_le h.2 (by simpa using h1)
  | [], _, _, _, h => by simp at h
def outR (r : Int) : Bool := decide (r < 32) || (decide (127 ≤ r) && decide (r < 160)) || decide (1114111 < r)
def wt (r : Int) : Int := if outR r = true then -1 else if inT marks r = true then 0 else if inT wides r = true then 2 else 1
theorem wt_rng (r : Int) : -1 ≤ wt r ∧ wt r ≤ 2 := by
  unfold wt; split
  · omega
  · split
    · omega
    · split <;> omega

/-- A table in memory. -/
def Tb (g : Nat) (T : List Row) (h : Heap) : Prop := g < h.size ∧ ∀ (i : Nat) v, (T.flatMap encR)[i]? = some v → h.at g i = some v
theorem Tb.ext {g : Nat} {T : List Row} {h h' : Heap} (x : Tb g T h) (e : Ext h h') : Tb g T h' := ⟨Nat.lt_of_lt_of_le x.1 e.size, fun i v hv => (e.at x.1).trans (x.2 i v hv)⟩
theorem Tb.seq {g : Nat} {T : List Row} {h : Heap} (x : Tb g T h) : Seq encR 2 h (.slice (some ⟨g, 0, none⟩) T.length T.length) T := by
  refine ⟨_, _, _, rfl, rfl, Nat.le_refl _, .inr ⟨g, 0, rfl, x.1, fun j p hj i u hu => ?_⟩⟩
  rw [Nat.zero_add]
  have hi : i < 2 := by have := (List.getElem?_eq_some_iff.1 hu).1; exact this
  exact x.2 _ _ (by rw [get_flat encR_len T j i p hj hi]; exact hu)
def G (h : Heap) : Prop := Tb 0 marks h ∧ Tb 1 wides h
theorem G.ext {h h' : Heap} (g : G h) (e : Ext h h') : G h' := ⟨g.1.ext e, g.2.ext e⟩

section
variable {h : Heap} {R : Value → Heap → Prop}
def cmpR (p : Row) (r : Int) : Int := if p.2 < r then -1 else if p.1 > r then 1 else 0
theorem cmp_spec {p : Row} {r : Int} (H : ∀ h', Ext h h' → R (.int .i64 (cmpR p r)) h') : sCallV Tryd.prog (.func (.func 16) #[] #[]) #[.agg (encR p).toArray, .int .i32 r] h R := by
  refine ⟨16, #[], #[], rfl, ?_⟩
  show wide_in_1_c (.agg (encR p).toArray) (.int .i32 r) h R
  apply wide_in_1_runs
  unfold wide_in_1_S
  refine (HW.Sep.start h).box (c := (encR p).toArray) rfl (fun k h1 s1 => ?_)
  have f0 : ∀ {K : Value → Prop}, sLd h1 (ptr k 0) K = K (.int .i32 p.1) := s1.ld rfl
  have f1 : ∀ {K : Value → Prop}, sLd h1 (ptr k 1) K = K (.int .i32 p.2) := s1.ld rfl
  simp only [ev_off, Nat.zero_add, f0, f1, ev_lt, ev_gt, ev_if, decide_eq_true_eq]
  have H := H h1 s1.ext
  unfold cmpR at H
  split
  · rename_i h1; rw [if_pos h1] at H; exact H
  · rename_i h1; rw [if_neg h1] at H
    split
    · rename_i h2; rw [if_pos h2] at H; exact H
    · rename_i h2; rw [if_neg h2] at H; exact H
theorem cmp_neg {p : Row} {r : Int} : cmpR p r < 0 ↔ p.2 < r := by
  unfold cmpR; split
  · omega
  · split <;> omega
theorem cmp_zero {p : Row} {r : Int} : cmpR p r = 0 ↔ ¬ p.2 < r ∧ ¬ p.1 > r := by
  unfold cmpR; split
  · omega
  · split <;> omega
theorem ev_shr1 {a : Int} {K : Value → Prop} : sShr .u64 (.int .u64 a) (.int .u64 1) K = K (.int .u64 (a / 2)) := by
  have e : a.fdiv (2 ^ (min (1 : Int).toNat IntKind.u64.bits)) = a / 2 := by
    show a.fdiv 2 = a / 2
    exact Int.fdiv_eq_ediv_of_nonneg _ (by decide)
  exact propext ⟨fun ⟨_, _, _, e1, e2, _, x⟩ => by cases e1; cases e2; rw [e] at x; exact x, fun x => ⟨a, .u64, 1, rfl, rfl, by decide, by rw [e]; exact x⟩⟩
theorem in_spec {T : List Row} {v : Value} {r : Int} (hT : rising T = true) (hn : T.length ≤ 1000) (q : Seq encR 2 h v T) (H : ∀ h', Ext h h' → R (.bool (inT T r)) h') : wide_in_c v (.int .i32 r) h R := by
  apply wide_in_runs
  unfold wide_in_S
  apply slices_BinarySearchFunc_wide_row_wide_row_rune_runs
  unfold slices_BinarySearchFunc_wide_row_wide_row_rune_S
  rw [q.len]
  refine ⟨fun t h' => ∃ i j : Nat, i ≤ j ∧ j ≤ T.length ∧ t = (.int .i64 i, .int .i64 j) ∧ (∀ k p, k < i → T[k]? = some p → p.2 < r) ∧ (∀ k p, j ≤ k → T[k]? = some p → ¬ p.2 < r) ∧ Ext h h', fun t _ => match t with | (.int _ i, .int _ j) => (j - i).toNat | _ => 0, ⟨0, T.length, Nat.zero_le _, Nat.le_refl _, rfl, fun _ _ h => by omega, fun k p h1 h2 => ?_, Ext.refl h⟩, ?_⟩
  · have := (List.getElem?_eq_some_iff.1 h2).1; omega
  rintro _ h1 ⟨i, j, hij, hj, rfl, hlo, hhi, e1⟩
  simp only []
  unfold slices_BinarySearchFunc_wide_row_wide_row_rune_l1
  rw [ev_lt, ev_if]
  by_cases hlt : i < j
  · rw [if_pos (by simpa using hlt), ev_add, wrap_i64 (by omega) (by omega), ev_conv, wrap_u64, Int.emod_eq_of_lt (by omega) (by omega), ev_shr1, ev_conv, wrap_i64 (by omega) (by omega)]
    obtain ⟨m, hm⟩ : ∃ m : Nat, ((i : Int) + j) / 2 = m := ⟨(((i : Int) + j) / 2).toNat, by omega⟩
    rw [hm]
    have hmT : m < T.length := by omega
    obtain ⟨p, hp⟩ : ∃ p, T[m]? = some p := ⟨T[m], List.getElem?_eq_getElem hmT⟩
    rw [(q.ext e1).ldn hp rfl]
    refine cmp_spec (fun h2 e2 => ?_)
    rw [ev_lt, ev_if]
    split
    · rename_i hc
      rw [decide_eq_true_eq, cmp_neg] at hc
      rw [ev_add, wrap_i64 (by omega) (by omega)]
      refine ⟨⟨m + 1, j, by omega, hj, by rw [Int.natCast_add]; rfl, fun k x hk hx => ?_, hhi, e1.trans e2⟩, by simp only; omega⟩
      by_cases hkm : k = m
      · subst hkm; rw [hp] at hx; cases hx; exact hc
      · have h1 := rising_lt hT (show k < m by omega) hx hp
        have h2 := rising_le hT hp
        omega
    · rename_i hc
      rw [decide_eq_true_eq, cmp_neg] at hc
      refine ⟨⟨i, m, by omega, by omega, rfl, hlo, fun k x hk hx => ?_, e1.trans e2⟩, by simp only; omega⟩
      by_cases hkm : k = m
      · subst hkm; rw [hp] at hx; cases hx; exact hc
      · have h1 := rising_lt hT (show m < k by omega) hp hx
        have h2 := rising_le hT hx
        omega
  · have : i = j := by omega
    subst this
    rw [if_neg (by simp), ev_lt]
    by_cases hi : i < T.length
    · obtain ⟨p, hp⟩ : ∃ p, T[i]? = some p := ⟨T[i], List.getElem?_eq_getElem hi⟩
      rw [show decide ((i : Int) < (T.length : Int)) = true by simpa using hi, ev_andh, if_pos rfl, (q.ext e1).ldn hp rfl]
      refine cmp_spec (fun h2 e2 => ?_)
      simp only [ev_eq, ev_tup, List.getElem?_toArray, List.getElem?_cons_succ, List.getElem?_cons_zero]
      have : (cmpR p r == 0) = inT T r := by
        rw [Bool.eq_iff_iff, inT_iff, beq_iff_eq, cmp_zero]
        constructor
        · intro x; exact ⟨i, p, hp, by omega, by omega⟩
        · rintro ⟨k, x, hx, h1, h2⟩
          rcases Nat.lt_trichotomy k i with hk | hk | hk
          · have := hlo k x hk hx; omega
          · subst hk; rw [hp] at hx; cases hx; omega
          · have h3 := rising_lt hT hk hp hx
            have := hhi i p (Nat.le_refl _) hp; omega
      rw [this]; exact H _ (e1.trans e2)
    · rw [show decide ((i : Int) < (T.length : Int)) = false by simpa using hi, ev_andh, if_neg (by decide)]
      simp only [ev_tup, List.getElem?_toArray, List.getElem?_cons_succ, List.getElem?_cons_zero]
      have : inT T r = false := by
        rw [← Bool.not_eq_true, inT_iff]
        rintro ⟨k, x, hx, h1, h2⟩
        have h3 := (List.getElem?_eq_some_iff.1 hx).1
        have := hlo k x (by omega) hx; omega
      rw [this] at H
      exact H _ e1
theorem slA {g n : Nat} {K : Value → Prop} (H : K (.slice (some ⟨g, 0, none⟩) n n)) (hn : 0 < n) : sSlA (.pointer (some ⟨g, 0, none⟩)) none none n 2 K := by
  refine ⟨g, 0, 0, n, rfl, rfl, rfl, Nat.zero_le _, Nat.le_refl _, ?_⟩
  unfold cutV
  rw [if_neg (by omega)]
  simpa [Addr.add] using H
theorem width_spec {r : Int} (g : G h) (H : ∀ h', Ext h h' → R (.int .i64 (wt r)) h') : wide_Width_c (.int .i32 r) h R := by
  apply wide_Width_runs
  unfold wide_Width_S
  simp only [ev_lt, ev_ge, ev_gt, ev_and_p, ev_or_p, ev_if]
  unfold wt at H
  rw [show (decide (r < 32) || (decide (r ≥ 127) && decide (r < 160)) || decide (r > 1114111)) = outR r from rfl]
  split
  · rename_i h1; rw [if_pos h1] at H; exact H h (Ext.refl h)
  · rename_i h1; rw [if_neg h1] at H
    refine slA ?_ (by decide)
    refine in_spec (T := marks) (by decide) (by decide) g.1.seq (fun h2 e2 => ?_)
    rw [ev_if]
    split
    · rename_i h3; rw [if_pos h3] at H; exact H h2 e2
    · rename_i h3; rw [if_neg h3] at H
      refine slA ?_ (by decide)
      refine in_spec (T := wides) (by decide) (by decide) (g.2.seq.ext e2) (fun h4 e4 => ?_)
      rw [ev_if]
      split
      · rename_i h5; rw [if_pos h5] at H; exact H h4 (e2.trans e4)
      · rename_i h5; rw [if_neg h5] at H; exact H h4 (e2.trans e4)
/-- The reference's rows, one number behind the other. -/
def flt (T : List Row) : List Int := T.flatMap fun p => [p.1, p.2]
theorem flt_len : ∀ T : List Row, (flt T).length = 2 * T.length
  | [] => rfl
  | a :: r => by show ([a.1, a.2] ++ flt r).length = _; rw [List.length_append, flt_len r, List.length_cons]; simp; omega
theorem flt_get : ∀ {T : List Row} {k : Nat} {p : Row}, T[k]? = some p → (flt T)[2 * k]? = some p.1 ∧ (flt T)[2 * k + 1]? = some p.2
  | a :: r, 0, p, h => by simp at h; subst h; exact ⟨rfl, rfl⟩
  | a :: r, k + 1, p, h => by
    have := flt_get (T := r) (k := k) (p := p) (by simpa using h)
    exact this
  | [], _, _, h => by simp at h
theorem rin_spec {T : List Row} {v : Value} {r : Int} (hn : T.length ≤ 1000) (q : Ints .i64 h v (flt T)) (H : R (.bool (inT T r)) h) : betonyref03_in_c v (.int .i64 r) h R := by
  apply betonyref03_in_runs
  unfold betonyref03_in_S
  refine ⟨fun t h' => ∃ k : Nat, k ≤ T.length ∧ t = .int .i64 ((2 * k : Nat) : Int) ∧ (∀ j p, j < k → T[j]? = some p → ¬(p.1 ≤ r ∧ r ≤ p.2)) ∧ h' = h, fun t _ => match t with | .int _ i => (2 * T.length - i).toNat | _ => 0, ⟨0, Nat.zero_le _, rfl, fun _ _ h => by omega, rfl⟩, ?_⟩
  rintro _ _ ⟨k, hk, rfl, hno, rfl⟩
  simp only []
  unfold betonyref03_in_l1
  rw [ev_add, wrap_i64 (by omega) (by omega), q.len, flt_len, ev_lt, ev_if]
  by_cases hlt : k < T.length
  · rw [if_pos (by rw [decide_eq_true_eq]; omega)]
    obtain ⟨p, hp⟩ : ∃ p, T[k]? = some p := ⟨T[k], List.getElem?_eq_getElem hlt⟩
    obtain ⟨g1, g2⟩ := flt_get hp
    have f1 : ∀ {K : Value → Prop}, sIxS v (.int .i64 ((2 * k : Nat) : Int)) 1 (fun a => sLd _ a K) = K (.int .i64 p.1) := q.ld g1 rfl .i64
    have f2 : ∀ {K : Value → Prop}, sIxS v (.int .i64 ((2 * k + 1 : Nat) : Int)) 1 (fun a => sLd _ a K) = K (.int .i64 p.2) := q.ld g2 rfl .i64
    rw [f1, ev_ge]
    have e : ((2 * k : Nat) : Int) + 1 = ((2 * k + 1 : Nat) : Int) := by omega
    simp only [ev_add, e, wrap_i64 (show -9223372036854775808 ≤ ((2 * k + 1 : Nat) : Int) by omega) (by omega), f2, ev_le, ev_and_p, ev_if]
    split
    · rename_i hc
      simp only [Bool.and_eq_true, decide_eq_true_eq] at hc
      rw [inT_iff.2 ⟨k, p, hp, hc.1, hc.2⟩] at H; exact H
    · rename_i hc
      simp only [Bool.and_eq_true, decide_eq_true_eq] at hc
      rw [wrap_i64 (by omega) (by omega)]
      refine ⟨⟨k + 1, hlt, by congr 1, fun j x hj hx => ?_, trivial⟩, by omega⟩
      by_cases hjk : j = k
      · subst hjk; rw [hp] at hx; cases hx; exact hc
      · exact hno j x (by omega) hx
  · rw [if_neg (by rw [decide_eq_true_eq]; omega)]
    have : inT T r = false := by
      rw [← Bool.not_eq_true, inT_iff]
      rintro ⟨j, x, hx, h1, h2⟩
      have h3 := (List.getElem?_eq_some_iff.1 hx).1
      exact hno j x (by omega) hx ⟨h1, h2⟩
    rw [this] at H; exact H
theorem rwidth_spec {r : Int} (H : ∀ h', Ext h h' → R (.int .i64 (wt r)) h') : betonyref03_Width_c (.int .i64 r) h R := by
  apply betonyref03_Width_runs
  unfold betonyref03_Width_S
  simp only [ev_lt, ev_ge, ev_le, ev_gt, ev_and_p, ev_or_p, ev_if]
  unfold wt at H
  rw [show (decide (r < 32) || (decide (r ≥ 127) && decide (r ≤ 159)) || decide (r > 1114111)) = outR r by unfold outR; rw [show decide (r ≤ 159) = decide (r < 160) by rw [decide_eq_decide]; omega]]
  split
  · rename_i h1; rw [if_pos h1] at H; exact H h (Ext.refl h)
  · rename_i h1; rw [if_neg h1] at H
    refine (HW.Sep.start h).slit (enc := encI .i64) (sz := 1) (encI_len _) (flt marks) rfl (fill_k (by kernel_rfl)) (fun v h2 _ s2 => ?_)
    refine rin_spec (T := marks) (by decide) s2.seq ?_
    rw [ev_if]
    split
    · rename_i h3; rw [if_pos h3] at H; exact H h2 s2.ext
    · rename_i h3; rw [if_neg h3] at H
      refine s2.slit (enc := encI .i64) (sz := 1) (encI_len _) (flt wides) rfl (fill_k (by kernel_rfl)) (fun v h4 _ s4 => ?_)
      refine rin_spec (T := wides) (by decide) s4.seq ?_
      rw [ev_if]
      split
      · rename_i h5; rw [if_pos h5] at H; exact H h4 s4.ext
      · rename_i h5; rw [if_neg h5] at H; exact H h4 s4.ext
end
end Go.Proofs.YtbgipcikkedloaaDoor
