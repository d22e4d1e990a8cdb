/- Settings of terminals: what each function answers. -/
import Derived.Test.YtlcklnbgknhhkaaHwB
import Derived.Test.YtlcklnbgknhhkaaFtermiosisByte
import Derived.Test.YtlcklnbgknhhkaaFtermioswithin
import Derived.Test.YtlcklnbgknhhkaaFtermiosRight
import Derived.Test.YtlcklnbgknhhkaaFtermiosIs
import Derived.Test.YtlcklnbgknhhkaaFtermiosMap
import Derived.Test.YtlcklnbgknhhkaaFbetonyref17Has
import Derived.Test.YtlcklnbgknhhkaaFbetonyref17Map
import Derived.Test.YtlcklnbgknhhkaaFbetonyref17Is
import Derived.Test.YtlcklnbgknhhkaaFbetonyref17Right
import Derived.Test.YtlcklnbgknhhkaaFbetonyref17Plain
set_option linter.unusedSimpArgs false
namespace Go.Proofs.Ytlcklnbgknhhkaa
open Go Go.HW

structure Tm where
  i : Int
  o : Int
  l : Int
  cc : Nat → Int
  m : Int
  t : Int
def Tm.e (t : Tm) : List Value := [.int .i64 t.i, .int .i64 t.o, .int .i64 t.l, .int .i64 (t.cc 0), .int .i64 (t.cc 1), .int .i64 (t.cc 2), .int .i64 (t.cc 3), .int .i64 (t.cc 4), .int .i64 (t.cc 5), .int .i64 (t.cc 6), .int .i64 (t.cc 7), .int .i64 (t.cc 8), .int .i64 (t.cc 9), .int .i64 (t.cc 10), .int .i64 (t.cc 11), .int .i64 t.m, .int .i64 t.t]
def Tm.ccA (t : Tm) : Array Value := #[.int .i64 (t.cc 0), .int .i64 (t.cc 1), .int .i64 (t.cc 2), .int .i64 (t.cc 3), .int .i64 (t.cc 4), .int .i64 (t.cc 5), .int .i64 (t.cc 6), .int .i64 (t.cc 7), .int .i64 (t.cc 8), .int .i64 (t.cc 9), .int .i64 (t.cc 10), .int .i64 (t.cc 11)]
def Tm.c (t : Tm) : Array Value := t.e.toArray
def Tm.v (t : Tm) : Value := .agg t.c
theorem Tm.cell1 (t : Tm) : ∀ u ∈ t.c.toList, Cell1 u := by
  intro u hu
  simp [Tm.c, Tm.e] at hu
  rcases hu with rfl | rfl | rfl | rfl | rfl | rfl | rfl | rfl | rfl | rfl | rfl | rfl | rfl | rfl | rfl | rfl | rfl <;> trivial
theorem Tm.at_cc (t : Tm) : ∀ j, j < 12 → t.c[3 + j]? = some (.int .i64 (t.cc j))
  | 0, _ | 1, _ | 2, _ | 3, _ | 4, _ | 5, _ | 6, _ | 7, _ | 8, _ | 9, _ | 10, _ | 11, _ => rfl
  | n + 12, h => by omega
theorem Tm.at_ccA (t : Tm) : ∀ j, j < 12 → t.ccA[j]? = some (.int .i64 (t.cc j))
  | 0, _ | 1, _ | 2, _ | 3, _ | 4, _ | 5, _ | 6, _ | 7, _ | 8, _ | 9, _ | 10, _ | 11, _ => rfl
  | n + 12, h => by omega

def Tm.map (t : Tm) (c : Int) : Int × Bool :=
  let d := if hasB t.i 1 = true then c % 128 else c
  if (d == 13 && hasB t.i 2) = true then (0, false) else if (d == 13 && hasB t.i 4) = true then (10, true) else if (d == 10 && hasB t.i 8) = true then (13, true) else (d, true)
def byteB (n : Int) : Bool := decide (0 ≤ n) && decide (n ≤ 255)
def witB (n a : Int) : Bool := decide (0 ≤ n) && decide (n ≤ a)
def Tm.ccOk (t : Tm) (n : Nat) : Bool := (List.range n).all fun j => byteB (t.cc j)
def Tm.right (t : Tm) : Bool := t.ccOk 12 && ((((witB t.i 127 && witB t.o 63) && witB t.l 1023) && byteB t.m) && byteB t.t)
def Tm.is (t : Tm) (w c : Int) : Bool := decide (0 ≤ w) && decide (w < 12) && (c != 0) && (t.cc w.toNat == c)
def Tm.raw (t : Tm) : Tm := ⟨0, 0, bitsOf .and .i64 t.l 256, t.cc, 1, 0⟩
def plainCc : Nat → Int
  | 0 => 3 | 1 => 28 | 2 => 26 | 3 => 4 | 4 => 0 | 5 => 127 | 6 => 21 | 7 => 23 | 8 => 18 | 9 => 22 | 10 => 17 | 11 => 19 | _ => 0
def plainT : Tm := ⟨84, 3, 623, plainCc, 1, 0⟩

section
variable {h : Heap} {R : Value → Heap → Prop}
theorem isByte_spec {n : Int} (H : R (.bool (byteB n)) h) : termios_isByte_c (.int .i64 n) h R := by
  apply termios_isByte_runs
  unfold termios_isByte_S
  simp only [ev_ge, ev_le, ev_and_p]
  exact H
theorem within_spec {n a : Int} (H : R (.bool (witB n a)) h) : termios_within_c (.int .i64 n) (.int .i64 a) h R := by
  apply termios_within_runs
  unfold termios_within_S
  simp only [ev_ge, ev_le, ev_and_p]
  exact H
theorem hasr_spec {n f : Int} (H : R (.bool (hasB n f)) h) : betonyref17_Has_c (.int .i64 n) (.int .i64 f) h R := by
  apply betonyref17_Has_runs
  unfold betonyref17_Has_S
  simp only [ev_bits, ev_ne]
  exact H
theorem map_spec {t : Tm} {c : Int} (hc : 0 ≤ c ∧ c < 256) (H : ∀ h', Ext h h' → R (.tuple #[.int .u8 (t.map c).1, .bool (t.map c).2]) h') : termios_Map_c t.v (.int .u8 c) h R := by
  apply termios_Map_runs
  unfold termios_Map_S
  refine (HW.Sep.start h).box (c := t.c) rfl (fun k h1 s => ?_)
  have f0 : ∀ {K : Value → Prop}, sLd h1 (ptr k 0) K = K (.int .i64 t.i) := s.ld rfl
  have hh : ∀ f, (bitsOf .and .i64 t.i f != 0) = hasB t.i f := fun _ => rfl
  simp only [ev_off, Nat.zero_add, f0, ev_bits, ev_ne, hh, ev_if, and_127 c hc.1 hc.2]
  have key : ∀ d, d = (if hasB t.i 1 = true then c % 128 else c) → termios_Map_j1 R (ptr k 0) (.int .u8 d) h1 := by
    intro d hd
    unfold termios_Map_j1
    simp only [ev_off, Nat.zero_add, f0, ev_bits, ev_ne, hh, ev_eq, ev_and_p, ev_if]
    have e : t.map c = (if (d == 13 && hasB t.i 2) = true then (0, false) else if (d == 13 && hasB t.i 4) = true then (10, true) else if (d == 10 && hasB t.i 8) = true then (13, true) else (d, true)) := by
      unfold Tm.map; rw [← hd]
    have H1 := H h1 s.ext
    rw [e] at H1
    split
    · rename_i h1; rw [if_pos h1] at H1; exact H1
    · rename_i h1; rw [if_neg h1] at H1
      split
      · rename_i h2; rw [if_pos h2] at H1; exact H1
      · rename_i h2; rw [if_neg h2] at H1
        split
        · rename_i h3; rw [if_pos h3] at H1; exact H1
        · rename_i h3; rw [if_neg h3] at H1; exact H1
  split
  · rename_i h1; exact key _ (by rw [if_pos h1])
  · rename_i h1; exact key _ (by rw [if_neg h1])
theorem rmap_spec {t : Tm} {c : Int} (hc : 0 ≤ c ∧ c < 256) (H : ∀ h', Ext h h' → R (.int .i64 (if (t.map c).2 = true then (t.map c).1 else -1)) h') : betonyref17_Map_c t.v (.int .u8 c) h R := by
  apply betonyref17_Map_runs
  unfold betonyref17_Map_S
  refine (HW.Sep.start h).box (c := t.c) rfl (fun k h1 s => ?_)
  have f0 : ∀ {K : Value → Prop}, sLd h1 (ptr k 0) K = K (.int .i64 t.i) := s.ld rfl
  rw [ev_conv, wrap_i64 (by omega) (by omega)]
  simp only [ev_off, Nat.zero_add, f0]
  refine hasr_spec ?_
  have key : ∀ d, d = (if hasB t.i 1 = true then c % 128 else c) → betonyref17_Map_j1 R (ptr k 0) (.int .i64 d) h1 := by
    intro d hd
    have e : t.map c = (if (d == 13 && hasB t.i 2) = true then (0, false) else if (d == 13 && hasB t.i 4) = true then (10, true) else if (d == 10 && hasB t.i 8) = true then (13, true) else (d, true)) := by
      unfold Tm.map; rw [← hd]
    rw [e] at H
    unfold betonyref17_Map_j1
    simp only [ev_off, Nat.zero_add, f0, ev_eq]
    refine and_ext (y := hasB t.i 2) (fun _ K' HK => hasr_spec (HK _ (Ext.refl _))) (fun h2 e2 => ?_)
    have s2 := s.ext' e2
    have f2 : ∀ {K : Value → Prop}, sLd h2 (ptr k 0) K = K (.int .i64 t.i) := s2.ld rfl
    rw [ev_if]
    split
    · rename_i h1
      have := H h2 s2.ext
      rw [if_pos h1] at this; exact this
    rename_i h1
    rw [if_neg h1] at H
    refine and_ext (y := hasB t.i 4) (fun _ K' HK => by simp only [f2]; exact hasr_spec (HK _ (Ext.refl _))) (fun h3 e3 => ?_)
    have s3 := s2.ext' e3
    have f3 : ∀ {K : Value → Prop}, sLd h3 (ptr k 0) K = K (.int .i64 t.i) := s3.ld rfl
    rw [ev_if]
    split
    · rename_i h1
      have := H h3 s3.ext
      rw [if_pos h1] at this; exact this
    rename_i h1
    rw [if_neg h1] at H
    refine and_ext (y := hasB t.i 8) (fun _ K' HK => by simp only [f3]; exact hasr_spec (HK _ (Ext.refl _))) (fun h4 e4 => ?_)
    rw [ev_if]
    split
    · rename_i h1
      have := H h4 (s3.ext' e4).ext
      rw [if_pos h1] at this; exact this
    rename_i h1
    have := H h4 (s3.ext' e4).ext
    rw [if_neg h1] at this; exact this
  rw [ev_if]
  split
  · rename_i h1
    rw [ev_rem (by decide), Int.tmod_eq_emod_of_nonneg hc.1]
    exact key _ (by rw [if_pos h1])
  · rename_i h1; exact key _ (by rw [if_neg h1])
theorem is_spec {t : Tm} {w c : Int} (hc : 0 ≤ c ∧ c < 256) (H : ∀ h', Ext h h' → R (.bool (t.is w c)) h') : termios_Is_c t.v (.int .i64 w) (.int .u8 c) h R := by
  apply termios_Is_runs
  unfold termios_Is_S
  refine (HW.Sep.start h).box (c := t.c) rfl (fun k h1 s => ?_)
  have H1 := H h1 s.ext
  simp only [ev_ge, ev_lt, ev_and_p, ev_ne, ev_off, Nat.zero_add]
  rw [ev_and]
  unfold Tm.is at H1
  split
  · rename_i h1
    rw [h1, Bool.true_and] at H1
    simp only [Bool.and_eq_true, decide_eq_true_eq] at h1
    obtain ⟨n, rfl⟩ := Int.eq_ofNat_of_zero_le h1.1.1
    have hn : n < 12 := by omega
    have : sIxA (ptr k 3) (.int .i64 (n : Int)) 12 1 = fun K => K (ptr k (3 + n)) := by
      funext K
      exact propext ⟨fun ⟨_, _, _, _, e1, e2, _, _, x⟩ => by cases e1; cases e2; simpa using x, fun x => ⟨k, 3, .i64, n, rfl, rfl, by omega, by omega, by simpa using x⟩⟩
    rw [this]
    simp only
    rw [s.ld (t.at_cc n hn), ev_conv, wrap_i64 (by omega) (by omega), ev_eq]
    simpa using H1
  · rename_i h1
    rw [show (decide (0 ≤ w) && decide (w < 12) && (c != 0)) = false by simpa using h1] at H1
    simpa using H1
end
theorem ixA {k o : Nat} {n j : Nat} {q : IntKind} {K : Value → Prop} (hj : j < n) : sIxA (ptr k o) (.int q (j : Int)) n 1 K = K (ptr k (o + j)) :=
  propext ⟨fun ⟨_, _, _, _, e1, e2, _, _, x⟩ => by cases e1; cases e2; simpa using x, fun x => ⟨k, o, q, j, rfl, rfl, by omega, by omega, by simpa using x⟩⟩
theorem ixV {cs : Array Value} {n j : Nat} {q : IntKind} {v : Value} {K : Value → Prop} (hj : j < n) (hv : cs[j]? = some v) : sIxV (.agg cs) (.int q (j : Int)) n K = K v :=
  propext ⟨fun ⟨_, _, _, _, e1, e2, _, _, hu, x⟩ => by cases e1; cases e2; simp only [Int.toNat_natCast] at hu; rw [hv] at hu; cases hu; exact x, fun x => ⟨cs, q, j, v, rfl, rfl, by omega, by omega, by simpa using hv, x⟩⟩

section
variable {h : Heap} {R : Value → Heap → Prop}
theorem ris_spec {t : Tm} {w c : Int} (H : ∀ h', Ext h h' → R (.bool (t.is w c)) h') : betonyref17_Is_c t.v (.int .i64 w) (.int .i64 c) h R := by
  apply betonyref17_Is_runs
  unfold betonyref17_Is_S
  refine (HW.Sep.start h).box (c := t.c) rfl (fun k h1 s => ?_)
  have H1 := H h1 s.ext
  simp only [ev_ge, ev_lt, ev_and_p, ev_ne, ev_off, Nat.zero_add]
  rw [ev_and]
  unfold Tm.is at H1
  split
  · rename_i h1
    rw [h1, Bool.true_and] at H1
    simp only [Bool.and_eq_true, decide_eq_true_eq] at h1
    obtain ⟨n, rfl⟩ := Int.eq_ofNat_of_zero_le h1.1.1
    have hn : n < 12 := by omega
    rw [ixA hn, s.ld (t.at_cc n hn), ev_eq]
    simpa using H1
  · rename_i h1
    rw [show (decide (0 ≤ w) && decide (w < 12) && (c != 0)) = false by simpa using h1] at H1
    simpa using H1
theorem ccOk_succ (t : Tm) (n : Nat) : t.ccOk (n + 1) = (t.ccOk n && byteB (t.cc n)) := by
  unfold Tm.ccOk; rw [List.range_succ, List.all_append]; simp
theorem ccOk_false {t : Tm} {n : Nat} (hn : n < 12) (h : byteB (t.cc n) = false) : t.right = false := by
  unfold Tm.right
  have : t.ccOk 12 = false := by
    unfold Tm.ccOk
    rw [List.all_eq_false]
    exact ⟨n, List.mem_range.2 hn, by rw [h]; decide⟩
  rw [this, Bool.false_and]
theorem tright_spec {t : Tm} (H : ∀ h', Ext h h' → R (.bool t.right) h') : termios_Right_c t.v h R := by
  apply termios_Right_runs
  unfold termios_Right_S
  refine (HW.Sep.start h).box (c := t.c) rfl (fun k h1 s => ?_)
  rw [ev_off, s.ldn (o := 0 + 3) (n := 12) (Nat.le_of_ble_eq_true rfl)]
  rw [show t.c.extract (0 + 3) (0 + 3 + 12) = t.ccA from rfl]
  refine ⟨fun s h' => ∃ j : Nat, s = .int .i64 j ∧ j ≤ 12 ∧ h' = h1 ∧ t.ccOk j = true, fun s _ => match s with | .int _ j => (12 - j).toNat | _ => 0, ⟨0, rfl, by omega, rfl, rfl⟩, ?_⟩
  rintro _ h' ⟨j, rfl, hj, rfl, hok⟩
  simp only []
  unfold termios_Right_l1
  simp only [ev_lt, ev_if, decide_eq_true_eq]
  by_cases hj2 : j < 12
  · rw [if_pos (by omega), ixV hj2 (t.at_ccA j hj2)]
    refine isByte_spec ?_
    rw [ev_not, ev_if]
    cases hb : byteB (t.cc j) with
    | false =>
      rw [if_pos (by decide), ← ccOk_false hj2 hb]; exact H _ s.ext
    | true =>
      rw [if_neg (by decide), ev_add, wrap_i64 (by omega) (by omega)]
      exact ⟨⟨j + 1, rfl, by omega, by first | rfl | trivial, by rw [ccOk_succ, hok, hb]; rfl⟩, by simp only []; omega⟩
  · rw [if_neg (by omega)]
    have : j = 12 := by omega
    subst this
    have f : ∀ {o : Nat} {v : Value} {K : Value → Prop}, t.c[o]? = some v → sLd h' (ptr k o) K = K v := fun hv => s.ld hv
    simp only [ev_off, Nat.zero_add]
    rw [f (o := 0) (v := .int .i64 t.i) rfl]
    refine within_spec ?_
    refine and_ext (y := witB t.o 63) (fun _ K' HK => by rw [f (o := 1) (v := .int .i64 t.o) rfl]; exact within_spec (HK _ (Ext.refl _))) (fun h2 e2 => ?_)
    have s2 := s.ext' e2
    refine and_ext (y := witB t.l 1023) (fun _ K' HK => by rw [s2.ld (o := 2) (v := .int .i64 t.l) rfl]; exact within_spec (HK _ (Ext.refl _))) (fun h3 e3 => ?_)
    have s3 := s2.ext' e3
    refine and_ext (y := byteB t.m) (fun _ K' HK => by rw [s3.ld (o := 15) (v := .int .i64 t.m) rfl]; exact isByte_spec (HK _ (Ext.refl _))) (fun h4 e4 => ?_)
    have s4 := s3.ext' e4
    refine and_ext (y := byteB t.t) (fun _ K' HK => by rw [s4.ld (o := 16) (v := .int .i64 t.t) rfl]; exact isByte_spec (HK _ (Ext.refl _))) (fun h5 e5 => ?_)
    have := H h5 (s4.ext' e5).ext
    unfold Tm.right at this
    rw [hok, Bool.true_and] at this
    exact this
theorem rright_spec {t : Tm} (H : ∀ h', Ext h h' → R (.bool t.right) h') : betonyref17_Right_c t.v h R := by
  apply betonyref17_Right_runs
  unfold betonyref17_Right_S
  refine (HW.Sep.start h).box (c := t.c) rfl (fun k h1 s => ?_)
  refine ⟨fun s h' => ∃ j : Nat, s = .int .i64 j ∧ j ≤ 12 ∧ h' = h1 ∧ t.ccOk j = true, fun s _ => match s with | .int _ j => (12 - j).toNat | _ => 0, ⟨0, rfl, by omega, rfl, rfl⟩, ?_⟩
  rintro _ h' ⟨j, rfl, hj, rfl, hok⟩
  simp only []
  unfold betonyref17_Right_l1
  simp only [ev_lt, ev_if, decide_eq_true_eq, ev_off, Nat.zero_add]
  by_cases hj2 : j < 12
  · rw [if_pos (by omega)]
    have ix : ∀ {K : Value → Prop}, sIxA (ptr k 3) (.int .i64 (j : Int)) 12 1 K = K (ptr k (3 + j)) := ixA hj2
    have f : ∀ {K : Value → Prop}, sLd h' (ptr k (3 + j)) K = K (.int .i64 (t.cc j)) := s.ld (t.at_cc j hj2)
    simp only [ix, f, ev_lt, ev_gt, ev_or_p, ev_if]
    have hb : (decide (t.cc j < 0) || decide (255 < t.cc j)) = !byteB (t.cc j) := by
      unfold byteB
      rw [Bool.eq_iff_iff]
      simp only [Bool.or_eq_true, decide_eq_true_eq, Bool.not_eq_true', Bool.and_eq_false_iff, decide_eq_false_iff_not]
      omega
    rw [hb]
    cases hb : byteB (t.cc j) with
    | false =>
      rw [if_pos (by decide), ← ccOk_false hj2 hb]; exact H _ s.ext
    | true =>
      rw [if_neg (by decide), ev_add, wrap_i64 (by omega) (by omega)]
      exact ⟨⟨j + 1, rfl, by omega, by first | rfl | trivial, by rw [ccOk_succ, hok, hb]; rfl⟩, by simp only []; omega⟩
  · rw [if_neg (by omega)]
    have : j = 12 := by omega
    subst this
    have f0 : ∀ {K : Value → Prop}, sLd h' (ptr k 0) K = K (.int .i64 t.i) := s.ld rfl
    have f1 : ∀ {K : Value → Prop}, sLd h' (ptr k 1) K = K (.int .i64 t.o) := s.ld rfl
    have f2 : ∀ {K : Value → Prop}, sLd h' (ptr k 2) K = K (.int .i64 t.l) := s.ld rfl
    have f3 : ∀ {K : Value → Prop}, sLd h' (ptr k 15) K = K (.int .i64 t.m) := s.ld rfl
    have f4 : ∀ {K : Value → Prop}, sLd h' (ptr k 16) K = K (.int .i64 t.t) := s.ld rfl
    simp only [f0, f1, f2, f3, f4, ev_ge, ev_le, ev_and_p]
    have := H h' s.ext
    unfold Tm.right witB byteB at this
    rw [hok, Bool.true_and] at this
    simpa only [Bool.and_assoc] using this
def partT (n : Nat) : Tm := ⟨84, 3, 623, fun j => if j < n then plainCc j else 0, 1, 0⟩
theorem part_set : ∀ n, n < 12 → (partT n).c.setIfInBounds (3 + n) (.int .i64 (plainCc n)) = (partT (n + 1)).c
  | 0, _ | 1, _ | 2, _ | 3, _ | 4, _ | 5, _ | 6, _ | 7, _ | 8, _ | 9, _ | 10, _ | 11, _ => rfl
  | n + 12, h => by omega
def plainL : List Int := [3, 28, 26, 4, 0, 127, 21, 23, 18, 22, 17, 19]
theorem plainL_at : ∀ n, n < 12 → plainL[n]? = some (plainCc n)
  | 0, _ | 1, _ | 2, _ | 3, _ | 4, _ | 5, _ | 6, _ | 7, _ | 8, _ | 9, _ | 10, _ | 11, _ => rfl
  | n + 12, h => by omega
theorem rplain_spec (H : ∀ h', Ext h h' → R plainT.v h') : betonyref17_Plain_c h R := by
  apply betonyref17_Plain_runs
  unfold betonyref17_Plain_S
  refine (HW.Sep.start h).new (fun k h1 s => ?_)
  refine build_intro (cs := (partT 0).c) (fill_k (by kernel_rfl)) ?_
  refine s.new (fun k2 h2 s2 => ?_)
  refine s2.stall (cs := (partT 0).c) rfl rfl (partT 0).cell1 (fun h3 s3 => ?_)
  refine s3.slit (enc := encI .i64) (sz := 1) (encI_len _) plainL rfl (fill_k (by kernel_rfl)) (fun v h4 _ s4 => ?_)
  refine ⟨fun s h' => ∃ j : Nat, s = .int .i64 j ∧ j ≤ 12 ∧ HW.Sep h [Sl (encI .i64) 1 v plainL, Blk k2 (partT j).c 28, Blk k #[.int .i64 0, .int .i64 0, .int .i64 0, .int .i64 0, .int .i64 0, .int .i64 0, .int .i64 0, .int .i64 0, .int .i64 0, .int .i64 0, .int .i64 0, .int .i64 0, .int .i64 0, .int .i64 0, .int .i64 0, .int .i64 0, .int .i64 0] 28] h', fun s _ => match s with | .int _ j => (12 - j).toNat | _ => 0, ⟨0, rfl, by omega, s4⟩, ?_⟩
  rintro _ h' ⟨j, rfl, hj, s5⟩
  simp only []
  unfold betonyref17_Plain_l1
  simp only [ev_lt, ev_if, decide_eq_true_eq, ev_off, Nat.zero_add]
  by_cases hj2 : j < 12
  · rw [if_pos (by omega), s5.seq.ld (plainL_at j hj2) rfl, ixA hj2]
    refine s5.b1.st (by show 3 + j < 17; omega) trivial (fun h6 s6 => ?_)
    rw [part_set j hj2] at s6
    rw [ev_add, wrap_i64 (by omega) (by omega)]
    exact ⟨⟨j + 1, rfl, by omega, s6.b1⟩, by simp only []; omega⟩
  · rw [if_neg (by omega)]
    have : j = 12 := by omega
    subst this
    rw [s5.b1.ldall (n := 17) rfl]
    refine s5.b2.stall (cs := plainT.c) rfl rfl plainT.cell1 (fun h7 s7 => ?_)
    rw [s7.ldall (n := 17) rfl]
    exact H _ s7.ext
end
abbrev ks17 : List (Option IntKind) := [some .i64, some .i64, some .i64, some .i64, some .i64, some .i64, some .i64, some .i64, some .i64, some .i64, some .i64, some .i64, some .i64, some .i64, some .i64, some .i64, some .i64]
theorem okC_tm (t : Tm) : okC ks17 t.c.toList := by simp [Tm.c, Tm.e, okC]
theorem eqVs_self : ∀ {ks : List (Option IntKind)} {l : List Value}, okC ks l → eqVs l l = true
  | [], [], _ => rfl
  | some k :: ks, .int _ a :: l, h => by simp [eqVs, eqV, eqVs_self h.2]
  | none :: ks, .bool a :: l, h => by simp [eqVs, eqV, eqVs_self (ks := ks) h]

theorem map_rng (t : Tm) {c : Int} (hc : 0 ≤ c ∧ c < 256) : 0 ≤ (t.map c).1 ∧ (t.map c).1 < 256 := by
  unfold Tm.map
  simp only
  have : 0 ≤ (if hasB t.i 1 = true then c % 128 else c) ∧ (if hasB t.i 1 = true then c % 128 else c) < 256 := by split <;> omega
  generalize (if hasB t.i 1 = true then c % 128 else c) = d at *
  split
  · simp
  · split
    · simp
    · split
      · simp
      · exact this
theorem map_zero (t : Tm) {c : Int} (h : (t.map c).2 = false) : (t.map c).1 = 0 := by
  unfold Tm.map at *
  simp only at *
  generalize (if hasB t.i 1 = true then c % 128 else c) = d at *
  by_cases h1 : (d == 13 && hasB t.i 2) = true
  · rw [if_pos h1]
  · rw [if_neg h1] at h
    split at h
    · cases h
    · split at h <;> cases h
theorem tm_of {h : Heap} {cs : List Value} (r : Rep (.agg (.cons (.int .i64) (.cons (.int .i64) (.cons (.int .i64) (.cons (.agg (.cons (.int .i64) (.cons (.int .i64) (.cons (.int .i64) (.cons (.int .i64) (.cons (.int .i64) (.cons (.int .i64) (.cons (.int .i64) (.cons (.int .i64) (.cons (.int .i64) (.cons (.int .i64) (.cons (.int .i64) (.cons (.int .i64) .nil))))))))))))) (.cons (.int .i64) (.cons (.int .i64) .nil))))))) h cs) : ∃ t : Tm, cs = t.e := by
  obtain ⟨_, _, rfl, ⟨i, rfl, _⟩, _, _, rfl, ⟨o, rfl, _⟩, _, _, rfl, ⟨l, rfl, _⟩, _, _, rfl, ⟨_, _, rfl, ⟨c0, rfl, _⟩, ⟨_, _, rfl, ⟨c1, rfl, _⟩, ⟨_, _, rfl, ⟨c2, rfl, _⟩, ⟨_, _, rfl, ⟨c3, rfl, _⟩, ⟨_, _, rfl, ⟨c4, rfl, _⟩, ⟨_, _, rfl, ⟨c5, rfl, _⟩, ⟨_, _, rfl, ⟨c6, rfl, _⟩, ⟨_, _, rfl, ⟨c7, rfl, _⟩, ⟨_, _, rfl, ⟨c8, rfl, _⟩, ⟨_, _, rfl, ⟨c9, rfl, _⟩, ⟨_, _, rfl, ⟨c10, rfl, _⟩, ⟨_, _, rfl, ⟨c11, rfl, _⟩, rfl⟩⟩⟩⟩⟩⟩⟩⟩⟩⟩⟩⟩, _, _, rfl, ⟨m, rfl, _⟩, _, _, rfl, ⟨t, rfl, _⟩, rfl⟩ := r
  exact ⟨⟨i, o, l, fun j => match j with | 0 => c0 | 1 => c1 | 2 => c2 | 3 => c3 | 4 => c4 | 5 => c5 | 6 => c6 | 7 => c7 | 8 => c8 | 9 => c9 | 10 => c10 | 11 => c11 | _ => 0, m, t⟩, rfl⟩
end Go.Proofs.Ytlcklnbgknhhkaa
