/- Pens: the parameters that make a pen. -/
import Derived.Test.YtkagmlpnidijaaaPenRef
import Derived.Test.YtkagmlpnidijaaaFpentold
import Derived.Test.YtkagmlpnidijaaaFpenLeast
import Derived.Test.YtkagmlpnidijaaaFbetonyref05told
import Derived.Test.YtkagmlpnidijaaaFbetonyref05Least
import Derived.Test.YtkagmlpnidijaaaFbetonyref01SameInts
import Derived.Test.YtkagmlpnidijaaaFbetonylaw05PenLeast
set_option linter.unusedSimpArgs false
set_option linter.unusedVariables false
namespace Go.Proofs.Ytkagmlpnidijaaa
open Go Go.HW

theorem and_255 {x : Int} (h0 : 0 ≤ x) (h1 : x < 9223372036854775808) : bitsOf .and .i64 x 255 = x % 256 := by
  obtain ⟨n, rfl⟩ := Int.eq_ofNat_of_zero_le h0
  refine bv_inj (bits_rng _ _ _) (by omega) ?_
  rw [bv_and]
  apply BitVec.eq_of_toNat_eq
  rw [BitVec.toNat_and]
  have e : ((n : Int) % 256) = ((n % 256 : Nat) : Int) := by omega
  have e1 : (bv (n : Int)).toNat = n := by show (BitVec.ofInt 64 (n : Int)).toNat = n; rw [BitVec.toNat_ofInt]; omega
  have e2 : (bv ((n % 256 : Nat) : Int)).toNat = n % 256 := by show (BitVec.ofInt 64 ((n % 256 : Nat) : Int)).toNat = n % 256; rw [BitVec.toNat_ofInt]; omega
  rw [e, e1, e2]
  exact Nat.and_two_pow_sub_one_eq_mod n 8
def toldI (first c : Int) : List Int := if kindI c = 1 then [first, 5, c - 1] else if kindI c = 2 then [first, 2, (c - 16777216) / 65536, c / 256 % 256, c % 256] else []
theorem told_len (f c : Int) : (toldI f c).length ≤ 5 := by
  unfold toldI; split
  · simp
  · split <;> simp
def on (g n : Int) : Bool := (flagI n != 0) && (bitsOf .and .i64 g (flagI n) != 0)
def fl (g : Int) : Nat → List Int
  | 0 => []
  | k + 1 => fl g k ++ (if on g ((k + 1 : Nat) : Int) = true then [((k + 1 : Nat) : Int)] else [])
theorem fl_len (g : Int) : ∀ k, (fl g k).length ≤ k
  | 0 => Nat.le_refl _
  | k + 1 => by unfold fl; rw [List.length_append]; have := fl_len g k; split <;> simp <;> omega
def leastI (p : Pn) : List Int := [0] ++ fl p.g 9 ++ toldI 38 p.f ++ toldI 48 p.b
theorem on_ref : ∀ a : Fin 256, ∀ i : Fin 10, (decide (flagI (i.val : Int) > 0) && ((a.val : Int) / flagI (i.val : Int) % 2 == 1)) = on (a.val : Int) (i.val : Int) := by decide +kernel
theorem fold_fl : ∀ a : Fin 256, ((fl (a.val : Int) 9).foldl oneI pn0).f = 0 ∧ ((fl (a.val : Int) 9).foldl oneI pn0).b = 0 ∧ ((fl (a.val : Int) 9).foldl oneI pn0).g = a.val := by decide +kernel
theorem app_fold : ∀ (a : List Int), (∀ x ∈ a, x ≠ 38 ∧ x ≠ 48) → ∀ p : Pn, appG p a = a.foldl oneI p
  | [], _, p => by rw [appG]; rfl
  | n :: a, h, p => by
    have hn := h n List.mem_cons_self
    rw [appG, if_pos (by simp [hn.1, hn.2]), app_fold a (fun x hx => h x (List.mem_cons_of_mem _ hx))]; rfl
theorem fl_mem (g : Int) : ∀ k, ∀ x ∈ fl g k, 1 ≤ x ∧ x ≤ k
  | 0, x, h => by cases h
  | k + 1, x, h => by
    unfold fl at h
    rcases List.mem_append.1 h with h | h
    · have := fl_mem g k x h; omega
    · split at h
      · simp at h; omega
      · cases h
theorem told_app (first c : Int) (hf : first = 38 ∨ first = 48) (hc : okI c = true) (x : Pn) (r : List Int) : appG x (toldI first c ++ r) = appG (if c = 0 then x else if first = 38 then { x with f := c } else { x with b := c }) r := by
  have hnn : ¬(first != 38 && first != 48) = true := by rcases hf with e | e <;> rw [e] <;> decide
  have hk := okI_iff.1 hc
  by_cases h0 : c = 0
  · rw [if_pos h0, h0]; rfl
  · rw [if_neg h0]
    by_cases h1 : 1 ≤ c ∧ c ≤ 256
    · have : kindI c = 1 := by unfold kindI; rw [if_neg h0, if_pos h1]
      unfold toldI
      rw [if_pos this]
      show appG x (first :: ([5, c - 1] ++ r)) = _
      have hcol : colI ([5, c - 1] ++ r) = (c, 2) := by
        show colI (5 :: (c - 1) :: r) = _
        simp only [colI]
        rw [if_pos (by simp only [byB, beq_self_eq_true, Bool.true_and, Bool.and_eq_true, decide_eq_true_eq]; omega)]
        congr 1; omega
      rw [appG, if_neg hnn, hcol]; rfl
    · have h2 : 16777216 ≤ c ∧ c < 33554432 := by omega
      have : kindI c = 2 := by unfold kindI; rw [if_neg h0, if_neg h1, if_pos h2]
      unfold toldI
      rw [if_neg (by rw [this]; decide), if_pos this]
      show appG x (first :: ([2, (c - 16777216) / 65536, c / 256 % 256, c % 256] ++ r)) = _
      have hcol : colI ([2, (c - 16777216) / 65536, c / 256 % 256, c % 256] ++ r) = (c, 4) := by
        show colI (2 :: ((c - 16777216) / 65536) :: (c / 256 % 256) :: (c % 256) :: r) = _
        simp only [colI]
        rw [if_neg (by simp), if_pos (by simp only [byB, beq_self_eq_true, Bool.true_and, Bool.and_eq_true, decide_eq_true_eq]; omega)]
        congr 1; omega
      rw [appG, if_neg hnn, hcol]; rfl
theorem least_ok {p o : Pn} (hp : p.right = true) : applyI o (leastI p) = p := by
  obtain ⟨h1, h2, h3⟩ := right_iff.1 hp
  have e : leastI p = 0 :: (fl p.g 9 ++ (toldI 38 p.f ++ (toldI 48 p.b ++ []))) := by unfold leastI; simp
  unfold applyI
  rw [e, if_neg (by simp), appG, if_pos (by decide), o0]
  have hno : ∀ x ∈ fl p.g 9, x ≠ 38 ∧ x ≠ 48 := fun x hx => by have := fl_mem p.g 9 x hx; omega
  rw [app_app _ _ hno, app_fold _ hno]
  obtain ⟨a, ha⟩ : ∃ a : Fin 256, p.g = a.val := ⟨⟨p.g.toNat, by have := h3.1; have := h3.2; omega⟩, by have := h3.1; simp only; omega⟩
  have hf := fold_fl a
  rw [← ha] at hf
  generalize (fl p.g 9).foldl oneI pn0 = x at hf
  obtain ⟨xf, xb, xg⟩ := x
  simp only at hf
  obtain ⟨rfl, rfl, rfl⟩ := hf
  rw [told_app 38 _ (.inl rfl) h1, told_app 48 _ (.inr rfl) h2, appG]
  obtain ⟨f, b, g⟩ := p
  simp only
  by_cases hf0 : f = 0 <;> by_cases hb0 : b = 0 <;> simp [hf0, hb0]

section
variable {h : Heap} {R : Value → Heap → Prop}
theorem ev_shrq {c : Int} {j : IntKind} {n : Nat} (hn : n < 64) {K : Value → Prop} : sShr .i64 (.int .i64 c) (.int j n) K = K (.int .i64 (c / 2 ^ n)) := by
  have e : c.fdiv (2 ^ (min (n : Int).toNat IntKind.i64.bits)) = c / 2 ^ n := by
    rw [Int.toNat_natCast, show min n IntKind.i64.bits = n from Nat.min_eq_left (by show n ≤ 64; omega)]
    exact Int.fdiv_eq_ediv_of_nonneg _ (Int.pow_nonneg (by decide))
  exact propext ⟨fun ⟨_, _, _, e1, e2, _, x⟩ => by cases e1; cases e2; rw [e] at x; exact x, fun x => ⟨c, j, n, rfl, rfl, by omega, by rw [e]; exact x⟩⟩
theorem shr16 {c : Int} {j : IntKind} {K : Value → Prop} : sShr .i64 (.int .i64 c) (.int j 16) K = K (.int .i64 (c / 65536)) := ev_shrq (n := 16) (by decide)
theorem shr8 {c : Int} {j : IntKind} {K : Value → Prop} : sShr .i64 (.int .i64 c) (.int j 8) K = K (.int .i64 (c / 256)) := ev_shrq (n := 8) (by decide)
theorem nil_seq : Ints .i64 h (.slice none 0 0) [] := (sep_nil (enc := encI .i64) (sz := 1) (HW.Sep.start h)).seq
theorem told_spec {first c : Int} (hc : okI c = true) (H : ∀ v h', Ext h h' → Ints .i64 h' v (toldI first c) → R v h') : pen_told_c (.int .i64 first) (.int .i64 c) h R := by
  apply pen_told_runs
  unfold pen_told_S
  refine kind_spec ?_
  have hk := okI_iff.1 hc
  simp only [ev_eq, ev_if, beq_iff_eq]
  unfold toldI at H
  split
  · rename_i h1
    rw [if_pos h1] at H
    rw [ev_sub, wrap_i64 (by omega) (by omega)]
    exact (HW.Sep.start h).slit (enc := encI .i64) (sz := 1) (encI_len _) [first, 5, c - 1] rfl ⟨rfl, Nat.le_of_ble_eq_true rfl, rfl, Nat.le_of_ble_eq_true rfl, rfl, Nat.le_of_ble_eq_true rfl, rfl⟩ (fun v h1 _ s1 => H v h1 s1.ext s1.seq)
  · rename_i h1
    rw [if_neg h1] at H
    split
    · rename_i h2
      rw [if_pos h2] at H
      have h2c : 16777216 ≤ c ∧ c < 33554432 := by
        unfold kindI at h2
        split at h2
        · cases h2
        · split at h2
          · cases h2
          · split at h2
            · assumption
            · cases h2
      rw [shr16, ev_bits, and_255 (by omega) (by omega), shr8, ev_bits, and_255 (by omega) (by omega), ev_bits, and_255 (by omega) (by omega)]
      rw [show c / 65536 % 256 = (c - 16777216) / 65536 by omega]
      exact (HW.Sep.start h).slit (enc := encI .i64) (sz := 1) (encI_len _) [first, 2, (c - 16777216) / 65536, c / 256 % 256, c % 256] rfl ⟨rfl, Nat.le_of_ble_eq_true rfl, rfl, Nat.le_of_ble_eq_true rfl, rfl, Nat.le_of_ble_eq_true rfl, rfl, Nat.le_of_ble_eq_true rfl, rfl, Nat.le_of_ble_eq_true rfl, rfl⟩ (fun v h1 _ s1 => H v h1 s1.ext s1.seq)
    · rename_i h2
      rw [if_neg h2] at H
      exact H _ h (Ext.refl h) nil_seq
theorem rtold_spec {first c : Int} (hc : okI c = true) (H : ∀ v h', Ext h h' → Ints .i64 h' v (toldI first c) → R v h') : betonyref05_told_c (.int .i64 first) (.int .i64 c) h R := by
  apply betonyref05_told_runs
  unfold betonyref05_told_S
  have hk := okI_iff.1 hc
  simp only [ev_eq, ev_le, ev_if, beq_iff_eq, decide_eq_true_eq]
  unfold toldI at H
  by_cases h0 : c = 0
  · rw [if_pos h0]
    have : kindI c = 0 := by unfold kindI; rw [if_pos h0]
    rw [this, if_neg (by decide), if_neg (by decide)] at H
    exact H _ h (Ext.refl h) nil_seq
  rw [if_neg h0]
  by_cases h1 : c ≤ 256
  · rw [if_pos h1]
    have : kindI c = 1 := by unfold kindI; rw [if_neg h0, if_pos (by omega)]
    rw [if_pos this] at H
    rw [ev_sub, wrap_i64 (by omega) (by omega)]
    exact (HW.Sep.start h).slit (enc := encI .i64) (sz := 1) (encI_len _) [first, 5, c - 1] rfl ⟨rfl, Nat.le_of_ble_eq_true rfl, rfl, Nat.le_of_ble_eq_true rfl, rfl, Nat.le_of_ble_eq_true rfl, rfl⟩ (fun v h1 _ s1 => H v h1 s1.ext s1.seq)
  · rw [if_neg h1]
    have h2 : 16777216 ≤ c ∧ c < 33554432 := by omega
    have : kindI c = 2 := by unfold kindI; rw [if_neg h0, if_neg (by omega), if_pos h2]
    rw [this, if_neg (by decide), if_pos rfl] at H
    rw [ev_sub, wrap_i64 (by omega) (by omega), ev_quo (by decide), Int.tdiv_eq_ediv_of_nonneg (by omega), wrap_i64 (by omega) (by omega), ev_quo (by decide), Int.tdiv_eq_ediv_of_nonneg (by omega), wrap_i64 (by omega) (by omega), ev_rem (by decide), Int.tmod_eq_emod_of_nonneg (by omega), ev_rem (by decide), Int.tmod_eq_emod_of_nonneg (by omega)]
    rw [show (c - 16777216) / 256 % 256 = c / 256 % 256 by omega, show (c - 16777216) % 256 = c % 256 by omega]
    exact (HW.Sep.start h).slit (enc := encI .i64) (sz := 1) (encI_len _) [first, 2, (c - 16777216) / 65536, c / 256 % 256, c % 256] rfl ⟨rfl, Nat.le_of_ble_eq_true rfl, rfl, Nat.le_of_ble_eq_true rfl, rfl, Nat.le_of_ble_eq_true rfl, rfl, Nat.le_of_ble_eq_true rfl, rfl, Nat.le_of_ble_eq_true rfl, rfl⟩ (fun v h1 _ s1 => H v h1 s1.ext s1.seq)
theorem least_spec {p : Pn} (H0 : p.right = false → ∀ h', Ext h h' → R (.slice none 0 0) h') (H1 : p.right = true → ∀ v h', Ext h h' → Ints .i64 h' v (leastI p) → R v h') : pen_Least_c (.agg p.a) h R := by
  apply pen_Least_runs
  unfold pen_Least_S
  refine (HW.Sep.start h).box (c := p.a) rfl (fun k h1 s1 => ?_)
  rw [s1.ldall (n := 3) rfl]
  refine right_spec (fun h2 e2 => ?_)
  have s2 := s1.ext' e2
  rw [ev_not, ev_if]
  cases hp : p.right with
  | false => rw [if_pos (by decide)]; exact H0 hp h2 s2.ext
  | true =>
    rw [if_neg (by decide)]
    have H := H1 hp
    obtain ⟨ok1, ok2, ok3⟩ := right_iff.1 hp
    refine s2.slit (enc := encI .i64) (sz := 1) (encI_len _) [0] rfl ⟨rfl, Nat.le_of_ble_eq_true rfl, rfl⟩ (fun x3 h3 _ s3 => ?_)
    refine ⟨fun t h' => ∃ (i : Nat) (v : Value), i ≤ 9 ∧ t = (v, .int .i64 ((i + 1 : Nat) : Int)) ∧ HW.Sep h [Sl (encI .i64) 1 v ([0] ++ fl p.g i), Blk k p.a 23] h', fun t _ => match t with | (_, .int _ i) => (10 - i).toNat | _ => 0, ⟨0, x3, Nat.zero_le _, rfl, s3⟩, ?_⟩
    rintro _ h4 ⟨i, v, hi, rfl, s4⟩
    simp only []
    unfold pen_Least_l1
    have f : ∀ {h' : Heap}, HW.Sep h [Sl (encI .i64) 1 v ([0] ++ fl p.g i), Blk k p.a 23] h' → (∀ {K : Value → Prop}, sLd h' (ptr k 0) K = K (.int .i64 p.f)) ∧ (∀ {K : Value → Prop}, sLd h' (ptr k 1) K = K (.int .i64 p.b)) ∧ (∀ {K : Value → Prop}, sLd h' (ptr k 2) K = K (.int .i64 p.g)) := fun s => ⟨s.b1.ld rfl, s.b1.ld rfl, s.b1.ld rfl⟩
    have hfl := fl_len p.g i
    rw [ev_le, ev_if]
    by_cases hlt : i < 9
    · rw [if_pos (by rw [decide_eq_true_eq]; omega)]
      refine flag_spec ?_
      have s5 := s4
      have nx : ∀ {v' : Value} {h' : Heap}, HW.Sep h [Sl (encI .i64) 1 v' ([0] ++ fl p.g (i + 1)), Blk k p.a 23] h' → pen_Least_j2 (fun x3' x4' h' => (∃ (i : Nat) (v : Value), i ≤ 9 ∧ (x3', x4') = (v, .int .i64 ((i + 1 : Nat) : Int)) ∧ HW.Sep h [Sl (encI .i64) 1 v ([0] ++ fl p.g i), Blk k p.a 23] h') ∧ (match (x3', x4') with | (_, .int _ i) => (10 - i).toNat | _ => 0) < (10 - ((i + 1 : Nat) : Int)).toNat) (.int .i64 ((i + 1 : Nat) : Int)) v' h' := by
        intro v' h' s'
        unfold pen_Least_j2
        rw [ev_add, wrap_i64 (by omega) (by omega)]
        exact ⟨⟨i + 1, v', hlt, by rw [Int.natCast_add (i + 1)]; rfl, s'⟩, by simp only; omega⟩
      simp only [ev_ne, ev_and_p, ev_off, Nat.zero_add, (f s5).2.2, ev_bits, ev_if]
      rw [show ((flagI ((i + 1 : Nat) : Int) != 0) && (bitsOf .and .i64 p.g (flagI ((i + 1 : Nat) : Int)) != 0)) = on p.g ((i + 1 : Nat) : Int) from rfl]
      split
      · rename_i hon
        refine s5.slit (enc := encI .i64) (sz := 1) (encI_len _) [((i + 1 : Nat) : Int)] rfl ⟨rfl, Nat.le_of_ble_eq_true rfl, rfl⟩ (fun x h6 _ s6 => ?_)
        refine s6.b1.app (enc := encI .i64) (sz := 1) rfl (by decide) (encI_len _) (encI_cell _) s6.seq (by simp only [List.length_append, List.length_cons, List.length_nil]; omega) (by decide) (fun w h7 _ s7 => nx ?_)
        have e : [0] ++ fl p.g (i + 1) = ([0] ++ fl p.g i) ++ [((i + 1 : Nat) : Int)] := by
          show [0] ++ (fl p.g i ++ _) = _
          rw [if_pos hon, List.append_assoc]
        rw [e]
        exact s7.sel [0, 2] rfl
      · rename_i hon
        refine nx ?_
        have e : [0] ++ fl p.g (i + 1) = [0] ++ fl p.g i := by
          show [0] ++ (fl p.g i ++ _) = _
          rw [if_neg hon, List.append_nil]
        rw [e]; exact s5
    · have : i = 9 := by omega
      subst this
      rw [if_neg (by decide)]
      simp only [ev_off, Nat.zero_add, (f s4).1]
      refine told_spec ok1 (fun v1 h5 e5 q5 => ?_)
      have s5 := s4.ext' e5
      have l1 := told_len 38 p.f
      have l2 := told_len 48 p.b
      refine s5.app (enc := encI .i64) (sz := 1) rfl (by decide) (encI_len _) (encI_cell _) q5 (by simp only [List.length_append, List.length_cons, List.length_nil]; omega) (by decide) (fun w h6 _ s6 => ?_)
      have g1 : ∀ {K : Value → Prop}, sLd h6 (ptr k 1) K = K (.int .i64 p.b) := s6.b1.ld rfl
      simp only [g1]
      refine told_spec ok2 (fun v2 h7 e7 q7 => ?_)
      have s7 := s6.ext' e7
      refine s7.app (enc := encI .i64) (sz := 1) rfl (by decide) (encI_len _) (encI_cell _) q7 (by simp only [List.length_append, List.length_cons, List.length_nil]; omega) (by decide) (fun w h8 _ s8 => ?_)
      exact H _ h8 s8.ext s8.seq
theorem rleast_spec {p : Pn} (H0 : p.right = false → ∀ h', Ext h h' → R (.slice none 0 0) h') (H1 : p.right = true → ∀ v h', Ext h h' → Ints .i64 h' v (leastI p) → R v h') : betonyref05_Least_c (.agg p.a) h R := by
  apply betonyref05_Least_runs
  unfold betonyref05_Least_S
  refine (HW.Sep.start h).box (c := p.a) rfl (fun k h1 s1 => ?_)
  rw [s1.ldall (n := 3) rfl]
  refine rright_spec (fun h2 e2 => ?_)
  have s2 := s1.ext' e2
  rw [ev_not, ev_if]
  cases hp : p.right with
  | false => rw [if_pos (by decide)]; exact H0 hp h2 s2.ext
  | true =>
    rw [if_neg (by decide)]
    have H := H1 hp
    obtain ⟨ok1, ok2, ok3⟩ := right_iff.1 hp
    refine s2.slit (enc := encI .i64) (sz := 1) (encI_len _) [0] rfl ⟨rfl, Nat.le_of_ble_eq_true rfl, rfl⟩ (fun x3 h3 _ s3 => ?_)
    refine ⟨fun t h' => ∃ (i : Nat) (v : Value), i ≤ 9 ∧ t = (v, .int .i64 ((i + 1 : Nat) : Int)) ∧ HW.Sep h [Sl (encI .i64) 1 v ([0] ++ fl p.g i), Blk k p.a 23] h', fun t _ => match t with | (_, .int _ i) => (10 - i).toNat | _ => 0, ⟨0, x3, Nat.zero_le _, rfl, s3⟩, ?_⟩
    rintro _ h4 ⟨i, v, hi, rfl, s4⟩
    simp only []
    unfold betonyref05_Least_l1
    have f : ∀ {h' : Heap}, HW.Sep h [Sl (encI .i64) 1 v ([0] ++ fl p.g i), Blk k p.a 23] h' → (∀ {K : Value → Prop}, sLd h' (ptr k 0) K = K (.int .i64 p.f)) ∧ (∀ {K : Value → Prop}, sLd h' (ptr k 1) K = K (.int .i64 p.b)) ∧ (∀ {K : Value → Prop}, sLd h' (ptr k 2) K = K (.int .i64 p.g)) := fun s => ⟨s.b1.ld rfl, s.b1.ld rfl, s.b1.ld rfl⟩
    have hfl := fl_len p.g i
    rw [ev_le, ev_if]
    by_cases hlt : i < 9
    · rw [if_pos (by rw [decide_eq_true_eq]; omega)]
      refine value_spec (fun h5 e5 => ?_)
      have s5 := s4.ext' e5
      have nx : ∀ {v' : Value} {h' : Heap}, HW.Sep h [Sl (encI .i64) 1 v' ([0] ++ fl p.g (i + 1)), Blk k p.a 23] h' → betonyref05_Least_j2 (fun x3' x4' h' => (∃ (i : Nat) (v : Value), i ≤ 9 ∧ (x3', x4') = (v, .int .i64 ((i + 1 : Nat) : Int)) ∧ HW.Sep h [Sl (encI .i64) 1 v ([0] ++ fl p.g i), Blk k p.a 23] h') ∧ (match (x3', x4') with | (_, .int _ i) => (10 - i).toNat | _ => 0) < (10 - ((i + 1 : Nat) : Int)).toNat) (.int .i64 ((i + 1 : Nat) : Int)) v' h' := by
        intro v' h' s'
        unfold betonyref05_Least_j2
        rw [ev_add, wrap_i64 (by omega) (by omega)]
        exact ⟨⟨i + 1, v', hlt, by rw [Int.natCast_add (i + 1)]; rfl, s'⟩, by simp only; omega⟩
      have hon : (decide (flagI ((i + 1 : Nat) : Int) > 0) && (p.g / flagI ((i + 1 : Nat) : Int) % 2 == 1)) = on p.g ((i + 1 : Nat) : Int) := by
        have := on_ref ⟨p.g.toNat, by have := ok3.1; have := ok3.2; omega⟩ ⟨i + 1, by omega⟩
        simp only [Int.toNat_of_nonneg ok3.1] at this
        exact this
      have o1 : 0 ≤ p.g := ok3.1
      have o2 : p.g < 256 := ok3.2
      have ev : ∀ {K : Value → Prop}, (sAnd (.bool (decide (flagI ((i + 1 : Nat) : Int) > 0))) (fun y => sLd h5 (ptr k 2) fun x20 => sQuo .i64 x20 (.int .i64 (flagI ((i + 1 : Nat) : Int))) fun x22 => sRem .i64 x22 (.int .i64 2) fun x23 => sEq x23 (.int .i64 1) fun x24 => y x24) K) = K (.bool (on p.g ((i + 1 : Nat) : Int))) := by
        intro K
        rw [ev_and]
        by_cases hpos : flagI ((i + 1 : Nat) : Int) > 0
        · rw [decide_eq_true hpos, Bool.true_and] at hon
          rw [decide_eq_true hpos, if_pos rfl]
          have d0 : 0 ≤ p.g / flagI ((i + 1 : Nat) : Int) := Int.ediv_nonneg o1 (Int.le_of_lt hpos)
          have d1 : p.g / flagI ((i + 1 : Nat) : Int) ≤ p.g := Int.ediv_le_self _ o1
          rw [(f s5).2.2, ev_quo (by omega), Int.tdiv_eq_ediv_of_nonneg o1, wrap_i64 (by omega) (by omega), ev_rem (by decide), Int.tmod_eq_emod_of_nonneg d0, ev_eq, hon]
        · rw [decide_eq_false hpos, Bool.false_and] at hon
          rw [decide_eq_false hpos, if_neg (by decide), hon]
      simp only [ev_gt, ev_off, Nat.zero_add]
      rw [ev, ev_if]
      split
      · rename_i hon
        refine s5.slit (enc := encI .i64) (sz := 1) (encI_len _) [((i + 1 : Nat) : Int)] rfl ⟨rfl, Nat.le_of_ble_eq_true rfl, rfl⟩ (fun x h6 _ s6 => ?_)
        refine s6.b1.app (enc := encI .i64) (sz := 1) rfl (by decide) (encI_len _) (encI_cell _) s6.seq (by simp only [List.length_append, List.length_cons, List.length_nil]; omega) (by decide) (fun w h7 _ s7 => nx ?_)
        have e : [0] ++ fl p.g (i + 1) = ([0] ++ fl p.g i) ++ [((i + 1 : Nat) : Int)] := by
          show [0] ++ (fl p.g i ++ _) = _
          rw [if_pos hon, List.append_assoc]
        rw [e]
        exact s7.sel [0, 2] rfl
      · rename_i hon
        refine nx ?_
        have e : [0] ++ fl p.g (i + 1) = [0] ++ fl p.g i := by
          show [0] ++ (fl p.g i ++ _) = _
          rw [if_neg hon, List.append_nil]
        rw [e]; exact s5
    · have : i = 9 := by omega
      subst this
      rw [if_neg (by decide)]
      simp only [ev_off, Nat.zero_add, (f s4).1]
      refine rtold_spec ok1 (fun v1 h5 e5 q5 => ?_)
      have s5 := s4.ext' e5
      have l1 := told_len 38 p.f
      have l2 := told_len 48 p.b
      refine s5.app (enc := encI .i64) (sz := 1) rfl (by decide) (encI_len _) (encI_cell _) q5 (by simp only [List.length_append, List.length_cons, List.length_nil]; omega) (by decide) (fun w h6 _ s6 => ?_)
      have g1 : ∀ {K : Value → Prop}, sLd h6 (ptr k 1) K = K (.int .i64 p.b) := s6.b1.ld rfl
      simp only [g1]
      refine rtold_spec ok2 (fun v2 h7 e7 q7 => ?_)
      have s7 := s6.ext' e7
      refine s7.app (enc := encI .i64) (sz := 1) rfl (by decide) (encI_len _) (encI_cell _) q7 (by simp only [List.length_append, List.length_cons, List.length_nil]; omega) (by decide) (fun w h8 _ s8 => ?_)
      exact H _ h8 s8.ext s8.seq
theorem sameI_spec {k : IntKind} {v w : Value} {l m : List Int} (hcap : l.length < 4611686018427387904) (hv : Ints k h v l) (hw : Ints k h w m) (H : R (.bool (decide (l = m))) h) : betonyref01_SameInts_c v w h R := by
  apply betonyref01_SameInts_runs
  unfold betonyref01_SameInts_S
  rw [hv.len, hw.len]
  simp only [ev_ne, ev_if, bne_iff_ne, ne_eq]
  by_cases hl : l.length = m.length
  · rw [if_neg (by simp [hl])]
    refine ⟨fun s h' => ∃ i : Nat, s = .int .i64 i ∧ i ≤ l.length ∧ h' = h ∧ l.take i = m.take i, fun s _ => match s with | .int _ i => (l.length - i).toNat | _ => 0, ⟨0, rfl, by omega, rfl, rfl⟩, ?_⟩
    rintro _ h' ⟨i, rfl, hi, e, ht⟩
    unfold betonyref01_SameInts_l1
    rw [hv.len]
    simp only [ev_lt, ev_if, decide_eq_true_eq]
    rw [e]
    by_cases hlt : i < l.length
    · rw [if_pos (by omega)]
      have g1 : l[i]? = some l[i] := by simp
      have g2 : m[i]? = some (m[i]'(by omega)) := by simp
      generalize l[i] = r at g1
      generalize m[i]'(by omega) = q at g2
      rw [Seq.ld hv g1 rfl, Seq.ld hw g2 rfl]
      simp only [ev_ne, ev_if, bne_iff_ne, ne_eq]
      by_cases hrq : r = q
      · subst hrq
        have wi : IntKind.i64.wrap ((i : Int) + 1) = ((i + 1 : Nat) : Int) := by rw [wrap_i64 (by omega) (by omega)]; rfl
        rw [if_neg (by simp), ev_add, wi]
        exact ⟨⟨i + 1, rfl, by omega, by trivial, by rw [List.take_add_one, List.take_add_one, g1, g2, ht]⟩, by simp only []; omega⟩
      · have : l ≠ m := fun e => by subst e; rw [g1] at g2; cases g2; exact hrq rfl
        rw [if_pos hrq]
        simpa [this] using H
    · rw [if_neg (by omega)]
      have : l = m := by
        rw [List.take_of_length_le (by omega), List.take_of_length_le (by omega)] at ht
        exact ht
      simpa [this] using H
  · rw [if_pos (by omega)]
    have : l ≠ m := fun e => hl (by rw [e])
    simpa [this] using H
theorem least_law {p o : Pn} (H : ∀ h', Ext h h' → R (.bool true) h') : betonylaw05_PenLeast_c (.agg p.a) (.agg o.a) h R := by
  apply betonylaw05_PenLeast_runs
  unfold betonylaw05_PenLeast_S
  refine (HW.Sep.start h).box (c := p.a) rfl (fun k h1 s1 => ?_)
  refine s1.box (c := o.a) rfl (fun k2 h2 s2 => ?_)
  rw [s2.b1.ldall (n := 3) rfl]
  have hlen : (leastI p).length ≤ 30 := by
    have := fl_len p.g 9; have := told_len 38 p.f; have := told_len 48 p.b
    unfold leastI; simp only [List.length_append, List.length_cons, List.length_nil]; omega
  refine least_spec (fun hp h3 e3 => ?_) (fun hp v h3 e3 q3 => ?_)
  · have s3 := s2.ext' e3
    rw [s3.b1.ldall (n := 3) rfl]
    refine rleast_spec (fun _ h4 e4 => ?_) (fun hp2 => by rw [hp] at hp2; cases hp2)
    have s4 := s3.ext' e4
    refine sameI_spec (k := .i64) (by simp) nil_seq nil_seq ?_
    rw [show decide (([] : List Int) = []) = true from rfl, ev_not, ev_if, if_neg (by decide), s4.b1.ldall (n := 3) rfl]
    refine rright_spec (fun h5 e5 => ?_)
    have s5 := s4.ext' e5
    rw [hp, ev_not, ev_if, if_pos (by decide)]
    rw [nil_seq (h := h5).len]
    simp only [List.length_nil, ev_eq]
    exact and_ext0 (fun K' HK => awake05 HK) (fun h6 e6 => H _ (s5.ext.trans e6))
  · have s3 := s2.ext' e3
    rw [s3.b1.ldall (n := 3) rfl]
    refine rleast_spec (fun hp2 => by rw [hp] at hp2; cases hp2) (fun _ u h4 e4 q4 => ?_)
    have s4 := s3.ext' e4
    refine sameI_spec (k := .i64) (by omega) (q3.ext e4) q4 ?_
    rw [decide_eq_true rfl, ev_not, ev_if, if_neg (by decide), s4.b1.ldall (n := 3) rfl]
    refine rright_spec (fun h5 e5 => ?_)
    have s5 := s4.ext' e5
    rw [hp, ev_not, ev_if, if_neg (by decide)]
    refine ⟨fun h' => h'.has k p.a 23 ∧ h'.has k2 o.a 23, ⟨s5.b1.has, s5.has⟩, ?_⟩
    have cA : ∀ {K : Value → Prop}, sLdNC (fun h' => h'.has k p.a 23 ∧ h'.has k2 o.a 23) (ptr k 0) 3 K = K (.agg p.a) := fun {K} => ldnc_all (C := fun h' => h'.has k p.a 23 ∧ h'.has k2 o.a 23) (h0 := h5) ⟨s5.b1.has, s5.has⟩ rfl (fun _ x => x.1)
    have cB : ∀ {K : Value → Prop}, sLdNC (fun h' => h'.has k p.a 23 ∧ h'.has k2 o.a 23) (ptr k2 0) 3 K = K (.agg o.a) := fun {K} => ldnc_all (C := fun h' => h'.has k p.a 23 ∧ h'.has k2 o.a 23) (h0 := h5) ⟨s5.b1.has, s5.has⟩ rfl (fun _ x => x.2)
    rw [cB]
    refine apply_spec ((q3.ext e4).ext e5) (by omega) (fun h6 e6 => ⟨⟨(s5.ext' e6).b1.has, (s5.ext' e6).has⟩, ?_⟩)
    rw [cA, least_ok hp, eq_pn]
    exact and_ext0 (fun K' HK => awake05 HK) (fun h7 e7 => H _ ((s5.ext.trans e6).trans e7))
end
end Go.Proofs.Ytkagmlpnidijaaa
