/- Settings of terminals: what each function answers. -/
import Derived.Test.YtpgpbhbpamgboaaHwBits
import Derived.Test.YtpgpbhbpamgboaaFtermiosisByte
import Derived.Test.YtpgpbhbpamgboaaFtermioswithin
import Derived.Test.YtpgpbhbpamgboaaFtermiosRight
import Derived.Test.YtpgpbhbpamgboaaFtermiosPlain
import Derived.Test.YtpgpbhbpamgboaaFtermiosRaw
import Derived.Test.YtpgpbhbpamgboaaFtermiosIs
import Derived.Test.YtpgpbhbpamgboaaFtermiosMap
import Derived.Test.YtpgpbhbpamgboaaFbetonyref17Has
import Derived.Test.YtpgpbhbpamgboaaFbetonyref17Map
import Derived.Test.YtpgpbhbpamgboaaFbetonyref17Is
import Derived.Test.YtpgpbhbpamgboaaFbetonyref17Right
import Derived.Test.YtpgpbhbpamgboaaFbetonyref17Plain
import Derived.Test.YtpgpbhbpamgboaaFbetonylaw17awake
set_option linter.unusedSimpArgs false
namespace Go.Proofs.Ytpgpbhbpamgboaa
open Go Go.HW

structure Tm where
  i : Int
  o : Int
  l : Int
  cc : Nat → Int
  m : Int
  t : Int
def Tm.e (t : Tm) : List Value := [.int .i64 t.i, .int .i64 t.o, .int .i64 t.l, .int .i64 (t.cc 0), .int .i64 (t.cc 1), .int .i64 (t.cc 2), .int .i64 (t.cc 3), .int .i64 (t.cc 4), .int .i64 (t.cc 5), .int .i64 (t.cc 6), .int .i64 (t.cc 7), .int .i64 (t.cc 8), .int .i64 (t.cc 9), .int .i64 (t.cc 10), .int .i64 (t.cc 11), .int .i64 t.m, .int .i64 t.t]
def Tm.ccA (t : Tm) : Array Value := #[.int .i64 (t.cc 0), .int .i64 (t.cc 1), .int .i64 (t.cc 2), .int .i64 (t.cc 3), .int .i64 (t.cc 4), .int .i64 (t.cc 5), .int .i64 (t.cc 6), .int .i64 (t.cc 7), .int .i64 (t.cc 8), .int .i64 (t.cc 9), .int .i64 (t.cc 10), .int .i64 (t.cc 11)]
def Tm.c (t : Tm) : Array Value := t.e.toArray
def Tm.v (t : Tm) : Value := .agg t.c
theorem Tm.cell1 (t : Tm) : ∀ u ∈ t.c.toList, Cell1 u := by
  intro u hu
  simp [Tm.c, Tm.e] at hu
  rcases hu with rfl | rfl | rfl | rfl | rfl | rfl | rfl | rfl | rfl | rfl | rfl | rfl | rfl | rfl | rfl | rfl | rfl <;> trivial
theorem Tm.at_cc (t : Tm) : ∀ j, j < 12 → t.c[3 + j]? = some (.int .i64 (t.cc j))
  | 0, _ | 1, _ | 2, _ | 3, _ | 4, _ | 5, _ | 6, _ | 7, _ | 8, _ | 9, _ | 10, _ | 11, _ => rfl
  | n + 12, h => by omega
theorem Tm.at_ccA (t : Tm) : ∀ j, j < 12 → t.ccA[j]? = some (.int .i64 (t.cc j))
  | 0, _ | 1, _ | 2, _ | 3, _ | 4, _ | 5, _ | 6, _ | 7, _ | 8, _ | 9, _ | 10, _ | 11, _ => rfl
  | n + 12, h => by omega

def Tm.map (t : Tm) (c : Int) : Int × Bool :=
  let d := if hasB t.i 1 = true then c % 128 else c
  if (d == 13 && hasB t.i 2) = true then (0, false) else if (d == 13 && hasB t.i 4) = true then (10, true) else if (d == 10 && hasB t.i 8) = true then (13, true) else (d, true)
def byteB (n : Int) : Bool := decide (0 ≤ n) && decide (n ≤ 255)
def witB (n a : Int) : Bool := decide (0 ≤ n) && decide (n ≤ a)
def Tm.ccOk (t : Tm) (n : Nat) : Bool := (List.range n).all fun j => byteB (t.cc j)
def Tm.right (t : Tm) : Bool := t.ccOk 12 && ((((witB t.i 127 && witB t.o 63) && witB t.l 1023) && byteB t.m) && byteB t.t)
def Tm.is (t : Tm) (w c : Int) : Bool := decide (0 ≤ w) && decide (w < 12) && (c != 0) && (t.cc w.toNat == c)
def Tm.raw (t : Tm) : Tm := ⟨0, 0, bitsOf .and .i64 t.l 256, t.cc, 1, 0⟩
def plainCc : Nat → Int
  | 0 => 3 | 1 => 28 | 2 => 26 | 3 => 4 | 4 => 0 | 5 => 127 | 6 => 21 | 7 => 23 | 8 => 18 | 9 => 22 | 10 => 17 | 11 => 19 | _ => 0
def plainT : Tm := ⟨84, 3, 623, plainCc, 1, 0⟩

section
variable {h : Heap} {R : Value → Heap → Prop}
theorem isByte_spec {n : Int} (H : R (.bool (byteB n)) h) : termios_isByte_c (.int .i64 n) h R := by
  apply termios_isByte_runs
  unfold termios_isByte_S
  simp only [ev_ge, ev_le, ev_and_p]
  exact H
theorem within_spec {n a : Int} (H : R (.bool (witB n a)) h) : termios_within_c (.int .i64 n) (.int .i64 a) h R := by
  apply termios_within_runs
  unfold termios_within_S
  simp only [ev_ge, ev_le, ev_and_p]
  exact H
theorem hasr_spec {n f : Int} (H : R (.bool (hasB n f)) h) : betonyref17_Has_c (.int .i64 n) (.int .i64 f) h R := by
  apply betonyref17_Has_runs
  unfold betonyref17_Has_S
  simp only [ev_bits, ev_ne]
  exact H
theorem map_spec {t : Tm} {c : Int} (hc : 0 ≤ c ∧ c < 256) (H : ∀ h', Ext h h' → R (.tuple #[.int .u8 (t.map c).1, .bool (t.map c).2]) h') : termios_Map_c t.v (.int .u8 c) h R := by
  apply termios_Map_runs
  unfold termios_Map_S
  refine (HW.Sep.start h).box (c := t.c) rfl (fun k h1 s => ?_)
  have f0 : ∀ {K : Value → Prop}, sLd h1 (ptr k 0) K = K (.int .i64 t.i) := s.ld rfl
  have hh : ∀ f, (bitsOf .and .i64 t.i f != 0) = hasB t.i f := fun _ => rfl
  simp only [ev_off, Nat.zero_add, f0, ev_bits, ev_ne, hh, ev_if, and_127 c hc.1 hc.2]
  have key : ∀ d, d = (if hasB t.i 1 = true then c % 128 else c) → termios_Map_j1 R (ptr k 0) (.int .u8 d) h1 := by
    intro d hd
    unfold termios_Map_j1
    simp only [ev_off, Nat.zero_add, f0, ev_bits, ev_ne, hh, ev_eq, ev_and_p, ev_if]
    have e : t.map c = (if (d == 13 && hasB t.i 2) = true then (0, false) else if (d == 13 && hasB t.i 4) = true then (10, true) else if (d == 10 && hasB t.i 8) = true then (13, true) else (d, true)) := by
      unfold Tm.map; rw [← hd]
    have H1 := H h1 s.ext
    rw [e] at H1
    split
    · rename_i h1; rw [if_pos h1] at H1; exact H1
    · rename_i h1; rw [if_neg h1] at H1
      split
      · rename_i h2; rw [if_pos h2] at H1; exact H1
      · rename_i h2; rw [if_neg h2] at H1
        split
        · rename_i h3; rw [if_pos h3] at H1; exact H1
        · rename_i h3; rw [if_neg h3] at H1; exact H1
  split
  · rename_i h1; exact key _ (by rw [if_pos h1])
  · rename_i h1; exact key _ (by rw [if_neg h1])
theorem rmap_spec {t : Tm} {c : Int} (hc : 0 ≤ c ∧ c < 256) (H : ∀ h', Ext h h' → R (.int .i64 (if (t.map c).2 = true then (t.map c).1 else -1)) h') : betonyref17_Map_c t.v (.int .u8 c) h R := by
  apply betonyref17_Map_runs
  unfold betonyref17_Map_S
  refine (HW.Sep.start h).box (c := t.c) rfl (fun k h1 s => ?_)
  have f0 : ∀ {K : Value → Prop}, sLd h1 (ptr k 0) K = K (.int .i64 t.i) := s.ld rfl
  rw [ev_conv, wrap_i64 (by omega) (by omega)]
  simp only [ev_off, Nat.zero_add, f0]
  refine hasr_spec ?_
  have key : ∀ d, d = (if hasB t.i 1 = true then c % 128 else c) → betonyref17_Map_j1 R (ptr k 0) (.int .i64 d) h1 := by
    intro d hd
    have e : t.map c = (if (d == 13 && hasB t.i 2) = true then (0, false) else if (d == 13 && hasB t.i 4) = true then (10, true) else if (d == 10 && hasB t.i 8) = true then (13, true) else (d, true)) := by
      unfold Tm.map; rw [← hd]
    rw [e] at H
    unfold betonyref17_Map_j1
    simp only [ev_off, Nat.zero_add, f0, ev_eq]
    refine and_ext (y := hasB t.i 2) (fun _ K' HK => hasr_spec (HK _ (Ext.refl _))) (fun h2 e2 => ?_)
    have s2 := s.ext' e2
    have f2 : ∀ {K : Value → Prop}, sLd h2 (ptr k 0) K = K (.int .i64 t.i) := s2.ld rfl
    rw [ev_if]
    split
    · rename_i h1
      have := H h2 s2.ext
      rw [if_pos h1] at this; exact this
    rename_i h1
    rw [if_neg h1] at H
    refine and_ext (y := hasB t.i 4) (fun _ K' HK => by simp only [f2]; exact hasr_spec (HK _ (Ext.refl _))) (fun h3 e3 => ?_)
    have s3 := s2.ext' e3
    have f3 : ∀ {K : Value → Prop}, sLd h3 (ptr k 0) K = K (.int .i64 t.i) := s3.ld rfl
    rw [ev_if]
    split
    · rename_i h1
      have := H h3 s3.ext
      rw [if_pos h1] at this; exact this
    rename_i h1
    rw [if_neg h1] at H
    refine and_ext (y := hasB t.i 8) (fun _ K' HK => by simp only [f3]; exact hasr_spec (HK _ (Ext.refl _))) (fun h4 e4 => ?_)
    rw [ev_if]
    split
    · rename_i h1
      have := H h4 (s3.ext' e4).ext
      rw [if_pos h1] at this; exact this
    rename_i h1
    have := H h4 (s3.ext' e4).ext
    rw [if_neg h1] at this; exact this
  rw [ev_if]
  split
  · rename_i h1
    rw [ev_rem (by decide), Int.tmod_eq_emod_of_nonneg hc.1]
    exact key _ (by rw [if_pos h1])
  · rename_i h1; exact key _ (by rw [if_neg h1])
theorem is_spec {t : Tm} {w c : Int} (hc : 0 ≤ c ∧ c < 256) (H : ∀ h', Ext h h' → R (.bool (t.is w c)) h') : termios_Is_c t.v (.int .i64 w) (.int .u8 c) h R := by
  apply termios_Is_runs
  unfold termios_Is_S
  refine (HW.Sep.start h).box (c := t.c) rfl (fun k h1 s => ?_)
  have H1 := H h1 s.ext
  simp only [ev_ge, ev_lt, ev_and_p, ev_ne, ev_off, Nat.zero_add]
  rw [ev_and]
  unfold Tm.is at H1
  split
  · rename_i h1
    rw [h1, Bool.true_and] at H1
    simp only [Bool.and_eq_true, decide_eq_true_eq] at h1
    obtain ⟨n, rfl⟩ := Int.eq_ofNat_of_zero_le h1.1.1
    have hn : n < 12 := by omega
    have : sIxA (ptr k 3) (.int .i64 (n : Int)) 12 1 = fun K => K (ptr k (3 + n)) := by
      funext K
      exact propext ⟨fun ⟨_, _, _, _, e1, e2, _, _, x⟩ => by cases e1; cases e2; simpa using x, fun x => ⟨k, 3, .i64, n, rfl, rfl, by omega, by omega, by simpa using x⟩⟩
    rw [this]
    simp only
    rw [s.ld (t.at_cc n hn), ev_conv, wrap_i64 (by omega) (by omega), ev_eq]
    simpa using H1
  · rename_i h1
    rw [show (decide (0 ≤ w) && decide (w < 12) && (c != 0)) = false by simpa using h1] at H1
    simpa using H1
end
end Go.Proofs.Ytpgpbhbpamgboaa
