/- Pens: any parameters, any pen. -/
import Derived.Test.YtkagmlpnidijaaaPenAid
import Derived.Test.YtkagmlpnidijaaaFpenlow
import Derived.Test.YtkagmlpnidijaaaFpenLook
import Derived.Test.YtkagmlpnidijaaaFbetonyref05Look
import Derived.Test.YtkagmlpnidijaaaFbetonylaw05PenApplies
set_option linter.unusedSimpArgs false
set_option linter.unusedVariables false
namespace Go.Proofs.Ytkagmlpnidijaaa
open Go Go.HW

def lowI (n bit : Int) : Int := (if bitsOf .and .i64 n bit ≠ 0 then 170 else 0) + (if 8 ≤ n then 85 else 0)
/-- A colour's parts. -/
def lk (c : Int) : Option (Int × Int × Int) :=
  if kindI c = 2 then some ((c - 16777216) / 65536, c / 256 % 256, c % 256) else if kindI c ≠ 1 then none
  else if c - 1 < 16 then some (lowI (c - 1) 1, lowI (c - 1) 2, lowI (c - 1) 4)
  else if c - 1 < 232 then some ((c - 17) / 36 * 51, (c - 17) / 6 % 6 * 51, (c - 17) % 6 * 51)
  else some (8 + 10 * (c - 233), 8 + 10 * (c - 233), 8 + 10 * (c - 233))
def lkT : Option (Int × Int × Int) → Value
  | some (r, g, b) => .tuple #[.int .i64 r, .int .i64 g, .int .i64 b, .bool true]
  | none => .tuple #[.int .i64 0, .int .i64 0, .int .i64 0, .bool false]
def lkL : Option (Int × Int × Int) → List Int
  | some (r, g, b) => [r, g, b]
  | none => []
theorem low_ref : ∀ n : Fin 16, lowI (n.val : Int) 1 = 170 * ((n.val : Int) % 2) + (if 8 ≤ (n.val : Int) then 85 else 0) ∧ lowI (n.val : Int) 2 = 170 * ((n.val : Int) / 2 % 2) + (if 8 ≤ (n.val : Int) then 85 else 0) ∧ lowI (n.val : Int) 4 = 170 * ((n.val : Int) / 4 % 2) + (if 8 ≤ (n.val : Int) then 85 else 0) := by decide +kernel
theorem kind_two {c : Int} (h : kindI c = 2) : 16777216 ≤ c ∧ c < 33554432 := by
  unfold kindI at h
  split at h
  · cases h
  · split at h
    · cases h
    · split at h
      · assumption
      · cases h
theorem kind_one {c : Int} (h : kindI c = 1) : 1 ≤ c ∧ c ≤ 256 := by
  unfold kindI at h
  split at h
  · cases h
  · split at h
    · assumption
    · split at h <;> cases h

section
variable {h : Heap} {R : Value → Heap → Prop}
theorem low_spec {n bit : Int} (H : R (.int .i64 (lowI n bit)) h) : pen_low_c (.int .i64 n) (.int .i64 bit) h R := by
  apply pen_low_runs
  unfold pen_low_S pen_low_j1 pen_low_j2
  simp only [ev_bits, ev_ne, ev_ge, ev_if, bne_iff_ne, decide_eq_true_eq, ge_iff_le]
  unfold lowI at H
  split
  · rename_i h1
    rw [if_pos h1] at H
    split
    · rename_i h2; rw [if_pos h2] at H; rw [ev_add, wrap_i64 (by decide) (by decide)]; exact H
    · rename_i h2; rw [if_neg h2] at H; exact H
  · rename_i h1
    rw [if_neg h1] at H
    split
    · rename_i h2; rw [if_pos h2] at H; rw [ev_add, wrap_i64 (by decide) (by decide)]; exact H
    · rename_i h2; rw [if_neg h2] at H; exact H
theorem look_spec {c : Int} (wc : -9223372036854775808 ≤ c ∧ c ≤ 9223372036854775807) (H : R (lkT (lk c)) h) : pen_Look_c (.int .i64 c) h R := by
  apply pen_Look_runs
  unfold pen_Look_S
  rw [ev_sub]
  refine kind_spec ?_
  rw [ev_eq, ev_if]
  unfold lk at H
  by_cases h2 : kindI c = 2
  · rw [if_pos (by rw [h2]; rfl)]
    rw [if_pos h2] at H
    have h2c := kind_two h2
    rw [shr16, ev_bits, and_255 (by omega) (by omega), shr8, ev_bits, and_255 (by omega) (by omega), ev_bits, and_255 (by omega) (by omega)]
    rw [show c / 65536 % 256 = (c - 16777216) / 65536 by omega]
    exact H
  rw [if_neg (by simpa using h2)]
  rw [if_neg h2] at H
  refine kind_spec ?_
  rw [ev_ne, ev_if]
  by_cases h1 : kindI c = 1
  · rw [if_neg (by rw [h1]; decide)]
    rw [if_neg (by rw [h1]; decide)] at H
    have h1c := kind_one h1
    rw [wrap_i64 (by omega) (by omega), ev_lt, ev_if]
    by_cases h3 : c - 1 < 16
    · rw [if_pos (decide_eq_true h3)]
      rw [if_pos h3] at H
      exact low_spec (low_spec (low_spec H))
    rw [if_neg (by simpa using h3)]
    rw [if_neg h3] at H
    rw [ev_lt, ev_if]
    by_cases h4 : c - 1 < 232
    · rw [if_pos (decide_eq_true h4)]
      rw [if_pos h4] at H
      rw [ev_sub, wrap_i64 (by omega) (by omega), show c - 1 - 16 = c - 17 by omega]
      rw [ev_quo (by decide), Int.tdiv_eq_ediv_of_nonneg (by omega), wrap_i64 (by omega) (by omega), ev_mul, wrap_i64 (by omega) (by omega)]
      rw [ev_quo (by decide), Int.tdiv_eq_ediv_of_nonneg (by omega), wrap_i64 (by omega) (by omega), ev_rem (by decide), Int.tmod_eq_emod_of_nonneg (by omega), ev_mul, wrap_i64 (by omega) (by omega)]
      rw [ev_rem (by decide), Int.tmod_eq_emod_of_nonneg (by omega), ev_mul, wrap_i64 (by omega) (by omega)]
      exact H
    rw [if_neg (by simpa using h4)]
    rw [if_neg h4] at H
    rw [ev_sub, wrap_i64 (by omega) (by omega), ev_mul, wrap_i64 (by omega) (by omega), ev_add, wrap_i64 (by omega) (by omega), show c - 1 - 232 = c - 233 by omega]
    exact H
  · rw [if_pos (by simpa using h1)]
    rw [if_pos h1] at H
    exact H
theorem slit3 {x y z : Int} (H : ∀ v h', Ext h h' → Ints .i64 h' v [x, y, z] → R v h') : sSlit h #[.int .i64 0, .int .i64 0, .int .i64 0] [(0, 1, (.int .i64 x)), (1, 1, (.int .i64 y)), (2, 1, (.int .i64 z))] 3 3 R :=
  (HW.Sep.start h).slit (enc := encI .i64) (sz := 1) (encI_len _) [x, y, z] rfl ⟨rfl, Nat.le_of_ble_eq_true rfl, rfl, Nat.le_of_ble_eq_true rfl, rfl, Nat.le_of_ble_eq_true rfl, rfl⟩ (fun v h1 _ s1 => H v h1 s1.ext s1.seq)
theorem rlook_spec {c : Int} (wc : -9223372036854775808 ≤ c ∧ c ≤ 9223372036854775807) (H : ∀ v h', Ext h h' → Ints .i64 h' v (lkL (lk c)) → R v h') : betonyref05_Look_c (.int .i64 c) h R := by
  apply betonyref05_Look_runs
  unfold betonyref05_Look_S
  simp only [ev_ge, ev_le, ev_lt, ev_gt, ev_and_p, ev_or_p, ev_if, ge_iff_le, Bool.and_eq_true, Bool.or_eq_true, decide_eq_true_eq]
  unfold lk at H
  by_cases h2 : 16777216 ≤ c ∧ c ≤ 33554431
  · rw [if_pos h2]
    have hk : kindI c = 2 := by unfold kindI; rw [if_neg (by omega), if_neg (by omega), if_pos (by omega)]
    rw [if_pos hk] at H
    rw [ev_sub, wrap_i64 (by omega) (by omega), ev_quo (by decide), Int.tdiv_eq_ediv_of_nonneg (by omega), wrap_i64 (by omega) (by omega), ev_quo (by decide), Int.tdiv_eq_ediv_of_nonneg (by omega), wrap_i64 (by omega) (by omega), ev_rem (by decide), Int.tmod_eq_emod_of_nonneg (by omega), ev_rem (by decide), Int.tmod_eq_emod_of_nonneg (by omega)]
    rw [show (c - 16777216) / 256 % 256 = c / 256 % 256 by omega, show (c - 16777216) % 256 = c % 256 by omega]
    exact slit3 H
  rw [if_neg h2]
  have hk2 : kindI c ≠ 2 := fun e => by have := kind_two e; omega
  rw [if_neg hk2] at H
  by_cases h1 : c < 1 ∨ 256 < c
  · rw [if_pos h1]
    rw [if_pos (fun e => by have := kind_one e; omega)] at H
    exact H _ h (Ext.refl h) nil_seq
  rw [if_neg h1]
  have hk1 : kindI c = 1 := by unfold kindI; rw [if_neg (by omega), if_pos (by omega)]
  rw [if_neg (by rw [hk1]; decide)] at H
  rw [ev_sub, wrap_i64 (by omega) (by omega)]
  rw [ev_ge, ev_if]
  by_cases h3 : 232 ≤ c - 1
  · rw [if_pos (decide_eq_true h3)]
    rw [if_neg (by omega), if_neg (by omega)] at H
    rw [ev_sub, wrap_i64 (by omega) (by omega), ev_mul, wrap_i64 (by omega) (by omega), ev_add, wrap_i64 (by omega) (by omega), show c - 1 - 232 = c - 233 by omega]
    exact slit3 H
  rw [if_neg (by simpa using h3), ev_ge, ev_if]
  by_cases h4 : 16 ≤ c - 1
  · rw [if_pos (decide_eq_true h4)]
    rw [if_neg (by omega), if_pos (by omega)] at H
    simp only [ev_sub, wrap_i64 (show -9223372036854775808 ≤ c - 1 - 16 by omega) (by omega), show c - 1 - 16 = c - 17 by omega]
    rw [wrap_i64 (by omega) (by omega)]
    rw [ev_quo (by decide), Int.tdiv_eq_ediv_of_nonneg (by omega), wrap_i64 (by omega) (by omega), ev_mul, wrap_i64 (by omega) (by omega)]
    rw [ev_quo (by decide), Int.tdiv_eq_ediv_of_nonneg (by omega), wrap_i64 (by omega) (by omega), ev_rem (by decide), Int.tmod_eq_emod_of_nonneg (by omega), ev_mul, wrap_i64 (by omega) (by omega)]
    rw [ev_rem (by decide), Int.tmod_eq_emod_of_nonneg (by omega), ev_mul, wrap_i64 (by omega) (by omega)]
    rw [Int.mul_comm 51, Int.mul_comm 51, Int.mul_comm 51]
    exact slit3 H
  rw [if_neg (by simpa using h4), ev_ge, ev_if]
  rw [if_pos (by omega)] at H
  have lr := low_ref ⟨(c - 1).toNat, by omega⟩
  simp only [Int.toNat_of_nonneg (show 0 ≤ c - 1 by omega)] at lr
  rw [lr.1, lr.2.1, lr.2.2] at H
  have key : ∀ m : Int, m = (if 8 ≤ c - 1 then 85 else 0) → betonyref05_Look_j1 R (.int .i64 (c - 1)) (.int .i64 m) h := by
    intro m hm
    rw [← hm] at H
    have hm2 : 0 ≤ m ∧ m ≤ 85 := by rw [hm]; split <;> omega
    unfold betonyref05_Look_j1
    rw [ev_rem (by decide), Int.tmod_eq_emod_of_nonneg (by omega), ev_mul, wrap_i64 (by omega) (by omega), ev_add, wrap_i64 (by omega) (by omega)]
    rw [ev_quo (by decide), Int.tdiv_eq_ediv_of_nonneg (by omega), wrap_i64 (by omega) (by omega), ev_rem (by decide), Int.tmod_eq_emod_of_nonneg (by omega), ev_mul, wrap_i64 (by omega) (by omega), ev_add, wrap_i64 (by omega) (by omega)]
    rw [ev_quo (by decide), Int.tdiv_eq_ediv_of_nonneg (by omega), wrap_i64 (by omega) (by omega), ev_rem (by decide), Int.tmod_eq_emod_of_nonneg (by omega), ev_mul, wrap_i64 (by omega) (by omega), ev_add, wrap_i64 (by omega) (by omega)]
    exact slit3 H
  by_cases h5 : 8 ≤ c - 1
  · rw [if_pos (decide_eq_true h5)]
    exact key 85 (by rw [if_pos h5])
  · rw [if_neg (by simpa using h5)]
    exact key 0 (by rw [if_neg h5])
theorem applies_law {p : Pn} {l : List Int} {v : Value} (wf : -9223372036854775808 ≤ p.f ∧ p.f ≤ 9223372036854775807) (q : Ints .i64 h v l) (H : ∀ h', Ext h h' → R (.bool true) h') : betonylaw05_PenApplies_c (.agg p.a) v h R := by
  apply betonylaw05_PenApplies_runs
  unfold betonylaw05_PenApplies_S
  refine (HW.Sep.start h).box (c := p.a) rfl (fun k h1 s1 => ?_)
  rw [q.len, ev_gt, ev_if]
  by_cases hl : (l.length : Int) > 60
  · rw [if_pos (decide_eq_true hl)]
    exact awake05 (fun h2 e2 => H _ (s1.ext.trans e2))
  rw [if_neg (by simpa using hl)]
  have f0 : ∀ {h' : Heap}, HW.Sep h [Blk k p.a 23] h' → ∀ {K : Value → Prop}, sLd h' (ptr k 0) K = K (.int .i64 p.f) := fun s _ => s.ld rfl
  rw [ev_off, Nat.zero_add, f0 s1]
  refine look_spec wf ?_
  have j1 : ∀ {u : Value} {h2 : Heap} {r g b : Int} {ok : Bool}, HW.Sep h [Blk k p.a 23] h2 → Ints .i64 h2 u (lkL (lk p.f)) → (ok || (r == 0 && g == 0 && b == 0)) = true → betonylaw05_PenApplies_j1 R v (ptr k 0) (.int .i64 r) (.int .i64 g) (.int .i64 b) (.bool ok) u h2 := by
    intro u h2 r g b ok s2 qu hok
    unfold betonylaw05_PenApplies_j1
    refine ⟨fun h' => h'.has k p.a 23, s2.has, ?_⟩
    have cA : ∀ {K : Value → Prop}, sLdNC (fun h' => h'.has k p.a 23) (ptr k 0) 3 K = K (.agg p.a) := fun {K} => ldnc_all (C := fun h' => h'.has k p.a 23) (h0 := h2) s2.has rfl (fun _ x => x)
    have cF : ∀ {K : Value → Prop}, sLdC (fun h' => h'.has k p.a 23) (ptr k 0) K = K (.int .i64 p.f) := fun {K} => ldc_at (C := fun h' => h'.has k p.a 23) (h0 := h2) s2.has (fun h' x => by rw [x.at]; rfl)
    rw [cA]
    refine right_spec (fun h3 e3 => ⟨(s2.ext' e3).has, ?_⟩)
    rw [cA]
    refine rright_spec (fun h4 e4 => ⟨((s2.ext' e3).ext' e4).has, ?_⟩)
    have s4 := (s2.ext' e3).ext' e4
    simp only [ev_eqlB, beq_self_eq_true]
    refine and_ext0 (fun K' HK => ?_) (fun h5 e5 => ?_)
    · rw [cA]
      refine apply_spec (q.ext s4.ext) (by omega) (fun h5 e5 => ⟨(s4.ext' e5).has, ?_⟩)
      rw [cA]
      refine rapply_spec (q.ext (s4.ext' e5).ext) (by omega) (fun h6 e6 => ⟨((s4.ext' e5).ext' e6).has, ?_⟩)
      rw [eq_pn]
      exact HK _ (e5.trans e6)
    have s5 := s4.ext' e5
    refine and_ext0 (fun K' HK => ?_) (fun h6 e6 => ?_)
    · rw [ev_off, Nat.zero_add, cF]
      refine rlook_spec wf (fun w h6 e6 qw => ?_)
      have hlk : (lkL (lk p.f)).length ≤ 3 := by cases lk p.f <;> simp [lkL]
      refine sameI_spec (k := .i64) (by omega) (qu.ext (((e3.trans e4).trans e5).trans e6)) qw ?_
      rw [decide_eq_true rfl]
      exact HK _ e6
    have s6 := s5.ext' e6
    simp only [ev_eq, ev_and_p, ev_or_p, hok, Bool.true_and]
    exact and_ext0 (fun K' HK => awake05 HK) (fun h7 e7 => H _ (s6.ext.trans e7))
  cases hk : lk p.f with
  | none =>
    simp only [lkT, ev_tup, List.getElem?_toArray, List.getElem?_cons_succ, List.getElem?_cons_zero, ev_if, Bool.false_eq_true, if_false]
    exact j1 s1 (by rw [hk]; exact nil_seq) rfl
  | some x =>
    obtain ⟨r, g, b⟩ := x
    simp only [lkT, ev_tup, List.getElem?_toArray, List.getElem?_cons_succ, List.getElem?_cons_zero, ev_if, if_true]
    refine slit3 (fun u h2 e2 q2 => ?_)
    exact j1 (s1.ext' e2) (by rw [hk]; exact q2) rfl
end
end Go.Proofs.Ytkagmlpnidijaaa
