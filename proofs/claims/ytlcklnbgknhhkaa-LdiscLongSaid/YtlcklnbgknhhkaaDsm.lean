/- Texts in one. -/
import Derived.Test.YtlcklnbgknhhkaaHwB
import Derived.Test.YtlcklnbgknhhkaaFtermiosisByte
import Derived.Test.YtlcklnbgknhhkaaFtermioswithin
import Derived.Test.YtlcklnbgknhhkaaFtermiosRight
import Derived.Test.YtlcklnbgknhhkaaFtermiosIs
import Derived.Test.YtlcklnbgknhhkaaFtermiosMap
import Derived.Test.YtlcklnbgknhhkaaFbetonyref17Has
import Derived.Test.YtlcklnbgknhhkaaFbetonyref17Map
import Derived.Test.YtlcklnbgknhhkaaFbetonyref17Is
import Derived.Test.YtlcklnbgknhhkaaFbetonyref17Right
import Derived.Test.YtlcklnbgknhhkaaFbetonyref17Plain
import Derived.Test.YtlcklnbgknhhkaaHwZsep
import Derived.Test.YtlcklnbgknhhkaaFldiscNew
import Derived.Test.YtlcklnbgknhhkaaFldiscDisclocal
import Derived.Test.YtlcklnbgknhhkaaFldiscDiscin
import Derived.Test.YtlcklnbgknhhkaaFldiscDiscpicture
import Derived.Test.YtlcklnbgknhhkaaFldiscDiscshow
import Derived.Test.YtlcklnbgknhhkaaFldiscDiscbell
import Derived.Test.YtlcklnbgknhhkaaFldiscDiscis
import Derived.Test.YtlcklnbgknhhkaaFldiscDiscends
import Derived.Test.YtlcklnbgknhhkaaFldiscDiscput
import Derived.Test.YtlcklnbgknhhkaaFldiscDiscback
import Derived.Test.YtlcklnbgknhhkaaFldiscDiscFlush
import Derived.Test.YtlcklnbgknhhkaaFldiscDiscready
import Derived.Test.YtlcklnbgknhhkaaFldiscDiscReady
import Derived.Test.YtlcklnbgknhhkaaFldiscDiscLine
import Derived.Test.YtlcklnbgknhhkaaFldiscDiscStopped
import Derived.Test.YtlcklnbgknhhkaaFslicesClonebytebyte
import Derived.Test.YtlcklnbgknhhkaaFldiscDiscbackWhile
import Derived.Test.YtlcklnbgknhhkaaFldiscisBlank
import Derived.Test.YtlcklnbgknhhkaaFldiscDiscextended
import Derived.Test.YtlcklnbgknhhkaaFldiscDiscextended1
import Derived.Test.YtlcklnbgknhhkaaFldiscDiscedit
import Derived.Test.YtlcklnbgknhhkaaFldiscDiscedit1
import Derived.Test.YtlcklnbgknhhkaaFldiscDiscsignal
import Derived.Test.YtlcklnbgknhhkaaFldiscDiscflow
import Derived.Test.YtlcklnbgknhhkaaFldiscDiscbyte
import Derived.Test.YtlcklnbgknhhkaaFldiscDiscInput
import Derived.Test.YtlcklnbgknhhkaaFldiscDiscRead
import Derived.Test.YtlcklnbgknhhkaaFbetonyref01Same
import Derived.Test.YtlcklnbgknhhkaaFbetonylaw18feed
import Derived.Test.YtlcklnbgknhhkaaFbetonylaw18awake
section
/- Settings of terminals: what each function answers. -/
set_option linter.unusedSimpArgs false
namespace Go.Proofs.Ytlcklnbgknhhkaa
open Go Go.HW

structure Tm where
  i : Int
  o : Int
  l : Int
  cc : Nat → Int
  m : Int
  t : Int
def Tm.e (t : Tm) : List Value := [.int .i64 t.i, .int .i64 t.o, .int .i64 t.l, .int .i64 (t.cc 0), .int .i64 (t.cc 1), .int .i64 (t.cc 2), .int .i64 (t.cc 3), .int .i64 (t.cc 4), .int .i64 (t.cc 5), .int .i64 (t.cc 6), .int .i64 (t.cc 7), .int .i64 (t.cc 8), .int .i64 (t.cc 9), .int .i64 (t.cc 10), .int .i64 (t.cc 11), .int .i64 t.m, .int .i64 t.t]
def Tm.ccA (t : Tm) : Array Value := #[.int .i64 (t.cc 0), .int .i64 (t.cc 1), .int .i64 (t.cc 2), .int .i64 (t.cc 3), .int .i64 (t.cc 4), .int .i64 (t.cc 5), .int .i64 (t.cc 6), .int .i64 (t.cc 7), .int .i64 (t.cc 8), .int .i64 (t.cc 9), .int .i64 (t.cc 10), .int .i64 (t.cc 11)]
def Tm.c (t : Tm) : Array Value := t.e.toArray
def Tm.v (t : Tm) : Value := .agg t.c
theorem Tm.cell1 (t : Tm) : ∀ u ∈ t.c.toList, Cell1 u := by
  intro u hu
  simp [Tm.c, Tm.e] at hu
  rcases hu with rfl | rfl | rfl | rfl | rfl | rfl | rfl | rfl | rfl | rfl | rfl | rfl | rfl | rfl | rfl | rfl | rfl <;> trivial
theorem Tm.at_cc (t : Tm) : ∀ j, j < 12 → t.c[3 + j]? = some (.int .i64 (t.cc j))
  | 0, _ | 1, _ | 2, _ | 3, _ | 4, _ | 5, _ | 6, _ | 7, _ | 8, _ | 9, _ | 10, _ | 11, _ => rfl
  | n + 12, h => by omega
theorem Tm.at_ccA (t : Tm) : ∀ j, j < 12 → t.ccA[j]? = some (.int .i64 (t.cc j))
  | 0, _ | 1, _ | 2, _ | 3, _ | 4, _ | 5, _ | 6, _ | 7, _ | 8, _ | 9, _ | 10, _ | 11, _ => rfl
  | n + 12, h => by omega

def Tm.map (t : Tm) (c : Int) : Int × Bool :=
  let d := if hasB t.i 1 = true then c % 128 else c
  if (d == 13 && hasB t.i 2) = true then (0, false) else if (d == 13 && hasB t.i 4) = true then (10, true) else if (d == 10 && hasB t.i 8) = true then (13, true) else (d, true)
def byteB (n : Int) : Bool := decide (0 ≤ n) && decide (n ≤ 255)
def witB (n a : Int) : Bool := decide (0 ≤ n) && decide (n ≤ a)
def Tm.ccOk (t : Tm) (n : Nat) : Bool := (List.range n).all fun j => byteB (t.cc j)
def Tm.right (t : Tm) : Bool := t.ccOk 12 && ((((witB t.i 127 && witB t.o 63) && witB t.l 1023) && byteB t.m) && byteB t.t)
def Tm.is (t : Tm) (w c : Int) : Bool := decide (0 ≤ w) && decide (w < 12) && (c != 0) && (t.cc w.toNat == c)
def Tm.raw (t : Tm) : Tm := ⟨0, 0, bitsOf .and .i64 t.l 256, t.cc, 1, 0⟩
def plainCc : Nat → Int
  | 0 => 3 | 1 => 28 | 2 => 26 | 3 => 4 | 4 => 0 | 5 => 127 | 6 => 21 | 7 => 23 | 8 => 18 | 9 => 22 | 10 => 17 | 11 => 19 | _ => 0
def plainT : Tm := ⟨84, 3, 623, plainCc, 1, 0⟩

section
variable {h : Heap} {R : Value → Heap → Prop}
theorem isByte_spec {n : Int} (H : R (.bool (byteB n)) h) : termios_isByte_c (.int .i64 n) h R := by
  apply termios_isByte_runs
  unfold termios_isByte_S
  simp only [ev_ge, ev_le, ev_and_p]
  exact H
theorem within_spec {n a : Int} (H : R (.bool (witB n a)) h) : termios_within_c (.int .i64 n) (.int .i64 a) h R := by
  apply termios_within_runs
  unfold termios_within_S
  simp only [ev_ge, ev_le, ev_and_p]
  exact H
theorem hasr_spec {n f : Int} (H : R (.bool (hasB n f)) h) : betonyref17_Has_c (.int .i64 n) (.int .i64 f) h R := by
  apply betonyref17_Has_runs
  unfold betonyref17_Has_S
  simp only [ev_bits, ev_ne]
  exact H
theorem map_spec {t : Tm} {c : Int} (hc : 0 ≤ c ∧ c < 256) (H : ∀ h', Ext h h' → R (.tuple #[.int .u8 (t.map c).1, .bool (t.map c).2]) h') : termios_Map_c t.v (.int .u8 c) h R := by
  apply termios_Map_runs
  unfold termios_Map_S
  refine (HW.Sep.start h).box (c := t.c) rfl (fun k h1 s => ?_)
  have f0 : ∀ {K : Value → Prop}, sLd h1 (ptr k 0) K = K (.int .i64 t.i) := s.ld rfl
  have hh : ∀ f, (bitsOf .and .i64 t.i f != 0) = hasB t.i f := fun _ => rfl
  simp only [ev_off, Nat.zero_add, f0, ev_bits, ev_ne, hh, ev_if, and_127 c hc.1 hc.2]
  have key : ∀ d, d = (if hasB t.i 1 = true then c % 128 else c) → termios_Map_j1 R (ptr k 0) (.int .u8 d) h1 := by
    intro d hd
    unfold termios_Map_j1
    simp only [ev_off, Nat.zero_add, f0, ev_bits, ev_ne, hh, ev_eq, ev_and_p, ev_if]
    have e : t.map c = (if (d == 13 && hasB t.i 2) = true then (0, false) else if (d == 13 && hasB t.i 4) = true then (10, true) else if (d == 10 && hasB t.i 8) = true then (13, true) else (d, true)) := by
      unfold Tm.map; rw [← hd]
    have H1 := H h1 s.ext
    rw [e] at H1
    split
    · rename_i h1; rw [if_pos h1] at H1; exact H1
    · rename_i h1; rw [if_neg h1] at H1
      split
      · rename_i h2; rw [if_pos h2] at H1; exact H1
      · rename_i h2; rw [if_neg h2] at H1
        split
        · rename_i h3; rw [if_pos h3] at H1; exact H1
        · rename_i h3; rw [if_neg h3] at H1; exact H1
  split
  · rename_i h1; exact key _ (by rw [if_pos h1])
  · rename_i h1; exact key _ (by rw [if_neg h1])
theorem rmap_spec {t : Tm} {c : Int} (hc : 0 ≤ c ∧ c < 256) (H : ∀ h', Ext h h' → R (.int .i64 (if (t.map c).2 = true then (t.map c).1 else -1)) h') : betonyref17_Map_c t.v (.int .u8 c) h R := by
  apply betonyref17_Map_runs
  unfold betonyref17_Map_S
  refine (HW.Sep.start h).box (c := t.c) rfl (fun k h1 s => ?_)
  have f0 : ∀ {K : Value → Prop}, sLd h1 (ptr k 0) K = K (.int .i64 t.i) := s.ld rfl
  rw [ev_conv, wrap_i64 (by omega) (by omega)]
  simp only [ev_off, Nat.zero_add, f0]
  refine hasr_spec ?_
  have key : ∀ d, d = (if hasB t.i 1 = true then c % 128 else c) → betonyref17_Map_j1 R (ptr k 0) (.int .i64 d) h1 := by
    intro d hd
    have e : t.map c = (if (d == 13 && hasB t.i 2) = true then (0, false) else if (d == 13 && hasB t.i 4) = true then (10, true) else if (d == 10 && hasB t.i 8) = true then (13, true) else (d, true)) := by
      unfold Tm.map; rw [← hd]
    rw [e] at H
    unfold betonyref17_Map_j1
    simp only [ev_off, Nat.zero_add, f0, ev_eq]
    refine and_ext (y := hasB t.i 2) (fun _ K' HK => hasr_spec (HK _ (Ext.refl _))) (fun h2 e2 => ?_)
    have s2 := s.ext' e2
    have f2 : ∀ {K : Value → Prop}, sLd h2 (ptr k 0) K = K (.int .i64 t.i) := s2.ld rfl
    rw [ev_if]
    split
    · rename_i h1
      have := H h2 s2.ext
      rw [if_pos h1] at this; exact this
    rename_i h1
    rw [if_neg h1] at H
    refine and_ext (y := hasB t.i 4) (fun _ K' HK => by simp only [f2]; exact hasr_spec (HK _ (Ext.refl _))) (fun h3 e3 => ?_)
    have s3 := s2.ext' e3
    have f3 : ∀ {K : Value → Prop}, sLd h3 (ptr k 0) K = K (.int .i64 t.i) := s3.ld rfl
    rw [ev_if]
    split
    · rename_i h1
      have := H h3 s3.ext
      rw [if_pos h1] at this; exact this
    rename_i h1
    rw [if_neg h1] at H
    refine and_ext (y := hasB t.i 8) (fun _ K' HK => by simp only [f3]; exact hasr_spec (HK _ (Ext.refl _))) (fun h4 e4 => ?_)
    rw [ev_if]
    split
    · rename_i h1
      have := H h4 (s3.ext' e4).ext
      rw [if_pos h1] at this; exact this
    rename_i h1
    have := H h4 (s3.ext' e4).ext
    rw [if_neg h1] at this; exact this
  rw [ev_if]
  split
  · rename_i h1
    rw [ev_rem (by decide), Int.tmod_eq_emod_of_nonneg hc.1]
    exact key _ (by rw [if_pos h1])
  · rename_i h1; exact key _ (by rw [if_neg h1])
theorem is_spec {t : Tm} {w c : Int} (hc : 0 ≤ c ∧ c < 256) (H : ∀ h', Ext h h' → R (.bool (t.is w c)) h') : termios_Is_c t.v (.int .i64 w) (.int .u8 c) h R := by
  apply termios_Is_runs
  unfold termios_Is_S
  refine (HW.Sep.start h).box (c := t.c) rfl (fun k h1 s => ?_)
  have H1 := H h1 s.ext
  simp only [ev_ge, ev_lt, ev_and_p, ev_ne, ev_off, Nat.zero_add]
  rw [ev_and]
  unfold Tm.is at H1
  split
  · rename_i h1
    rw [h1, Bool.true_and] at H1
    simp only [Bool.and_eq_true, decide_eq_true_eq] at h1
    obtain ⟨n, rfl⟩ := Int.eq_ofNat_of_zero_le h1.1.1
    have hn : n < 12 := by omega
    have : sIxA (ptr k 3) (.int .i64 (n : Int)) 12 1 = fun K => K (ptr k (3 + n)) := by
      funext K
      exact propext ⟨fun ⟨_, _, _, _, e1, e2, _, _, x⟩ => by cases e1; cases e2; simpa using x, fun x => ⟨k, 3, .i64, n, rfl, rfl, by omega, by omega, by simpa using x⟩⟩
    rw [this]
    simp only
    rw [s.ld (t.at_cc n hn), ev_conv, wrap_i64 (by omega) (by omega), ev_eq]
    simpa using H1
  · rename_i h1
    rw [show (decide (0 ≤ w) && decide (w < 12) && (c != 0)) = false by simpa using h1] at H1
    simpa using H1
end
theorem ixA {k o : Nat} {n j : Nat} {q : IntKind} {K : Value → Prop} (hj : j < n) : sIxA (ptr k o) (.int q (j : Int)) n 1 K = K (ptr k (o + j)) :=
  propext ⟨fun ⟨_, _, _, _, e1, e2, _, _, x⟩ => by cases e1; cases e2; simpa using x, fun x => ⟨k, o, q, j, rfl, rfl, by omega, by omega, by simpa using x⟩⟩
theorem ixV {cs : Array Value} {n j : Nat} {q : IntKind} {v : Value} {K : Value → Prop} (hj : j < n) (hv : cs[j]? = some v) : sIxV (.agg cs) (.int q (j : Int)) n K = K v :=
  propext ⟨fun ⟨_, _, _, _, e1, e2, _, _, hu, x⟩ => by cases e1; cases e2; simp only [Int.toNat_natCast] at hu; rw [hv] at hu; cases hu; exact x, fun x => ⟨cs, q, j, v, rfl, rfl, by omega, by omega, by simpa using hv, x⟩⟩

section
variable {h : Heap} {R : Value → Heap → Prop}
theorem ris_spec {t : Tm} {w c : Int} (H : ∀ h', Ext h h' → R (.bool (t.is w c)) h') : betonyref17_Is_c t.v (.int .i64 w) (.int .i64 c) h R := by
  apply betonyref17_Is_runs
  unfold betonyref17_Is_S
  refine (HW.Sep.start h).box (c := t.c) rfl (fun k h1 s => ?_)
  have H1 := H h1 s.ext
  simp only [ev_ge, ev_lt, ev_and_p, ev_ne, ev_off, Nat.zero_add]
  rw [ev_and]
  unfold Tm.is at H1
  split
  · rename_i h1
    rw [h1, Bool.true_and] at H1
    simp only [Bool.and_eq_true, decide_eq_true_eq] at h1
    obtain ⟨n, rfl⟩ := Int.eq_ofNat_of_zero_le h1.1.1
    have hn : n < 12 := by omega
    rw [ixA hn, s.ld (t.at_cc n hn), ev_eq]
    simpa using H1
  · rename_i h1
    rw [show (decide (0 ≤ w) && decide (w < 12) && (c != 0)) = false by simpa using h1] at H1
    simpa using H1
theorem ccOk_succ (t : Tm) (n : Nat) : t.ccOk (n + 1) = (t.ccOk n && byteB (t.cc n)) := by
  unfold Tm.ccOk; rw [List.range_succ, List.all_append]; simp
theorem ccOk_false {t : Tm} {n : Nat} (hn : n < 12) (h : byteB (t.cc n) = false) : t.right = false := by
  unfold Tm.right
  have : t.ccOk 12 = false := by
    unfold Tm.ccOk
    rw [List.all_eq_false]
    exact ⟨n, List.mem_range.2 hn, by rw [h]; decide⟩
  rw [this, Bool.false_and]
theorem tright_spec {t : Tm} (H : ∀ h', Ext h h' → R (.bool t.right) h') : termios_Right_c t.v h R := by
  apply termios_Right_runs
  unfold termios_Right_S
  refine (HW.Sep.start h).box (c := t.c) rfl (fun k h1 s => ?_)
  rw [ev_off, s.ldn (o := 0 + 3) (n := 12) (Nat.le_of_ble_eq_true rfl)]
  rw [show t.c.extract (0 + 3) (0 + 3 + 12) = t.ccA from rfl]
  refine ⟨fun s h' => ∃ j : Nat, s = .int .i64 j ∧ j ≤ 12 ∧ h' = h1 ∧ t.ccOk j = true, fun s _ => match s with | .int _ j => (12 - j).toNat | _ => 0, ⟨0, rfl, by omega, rfl, rfl⟩, ?_⟩
  rintro _ h' ⟨j, rfl, hj, rfl, hok⟩
  simp only []
  unfold termios_Right_l1
  simp only [ev_lt, ev_if, decide_eq_true_eq]
  by_cases hj2 : j < 12
  · rw [if_pos (by omega), ixV hj2 (t.at_ccA j hj2)]
    refine isByte_spec ?_
    rw [ev_not, ev_if]
    cases hb : byteB (t.cc j) with
    | false =>
      rw [if_pos (by decide), ← ccOk_false hj2 hb]; exact H _ s.ext
    | true =>
      rw [if_neg (by decide), ev_add, wrap_i64 (by omega) (by omega)]
      exact ⟨⟨j + 1, rfl, by omega, by first | rfl | trivial, by rw [ccOk_succ, hok, hb]; rfl⟩, by simp only []; omega⟩
  · rw [if_neg (by omega)]
    have : j = 12 := by omega
    subst this
    have f : ∀ {o : Nat} {v : Value} {K : Value → Prop}, t.c[o]? = some v → sLd h' (ptr k o) K = K v := fun hv => s.ld hv
    simp only [ev_off, Nat.zero_add]
    rw [f (o := 0) (v := .int .i64 t.i) rfl]
    refine within_spec ?_
    refine and_ext (y := witB t.o 63) (fun _ K' HK => by rw [f (o := 1) (v := .int .i64 t.o) rfl]; exact within_spec (HK _ (Ext.refl _))) (fun h2 e2 => ?_)
    have s2 := s.ext' e2
    refine and_ext (y := witB t.l 1023) (fun _ K' HK => by rw [s2.ld (o := 2) (v := .int .i64 t.l) rfl]; exact within_spec (HK _ (Ext.refl _))) (fun h3 e3 => ?_)
    have s3 := s2.ext' e3
    refine and_ext (y := byteB t.m) (fun _ K' HK => by rw [s3.ld (o := 15) (v := .int .i64 t.m) rfl]; exact isByte_spec (HK _ (Ext.refl _))) (fun h4 e4 => ?_)
    have s4 := s3.ext' e4
    refine and_ext (y := byteB t.t) (fun _ K' HK => by rw [s4.ld (o := 16) (v := .int .i64 t.t) rfl]; exact isByte_spec (HK _ (Ext.refl _))) (fun h5 e5 => ?_)
    have := H h5 (s4.ext' e5).ext
    unfold Tm.right at this
    rw [hok, Bool.true_and] at this
    exact this
theorem rright_spec {t : Tm} (H : ∀ h', Ext h h' → R (.bool t.right) h') : betonyref17_Right_c t.v h R := by
  apply betonyref17_Right_runs
  unfold betonyref17_Right_S
  refine (HW.Sep.start h).box (c := t.c) rfl (fun k h1 s => ?_)
  refine ⟨fun s h' => ∃ j : Nat, s = .int .i64 j ∧ j ≤ 12 ∧ h' = h1 ∧ t.ccOk j = true, fun s _ => match s with | .int _ j => (12 - j).toNat | _ => 0, ⟨0, rfl, by omega, rfl, rfl⟩, ?_⟩
  rintro _ h' ⟨j, rfl, hj, rfl, hok⟩
  simp only []
  unfold betonyref17_Right_l1
  simp only [ev_lt, ev_if, decide_eq_true_eq, ev_off, Nat.zero_add]
  by_cases hj2 : j < 12
  · rw [if_pos (by omega)]
    have ix : ∀ {K : Value → Prop}, sIxA (ptr k 3) (.int .i64 (j : Int)) 12 1 K = K (ptr k (3 + j)) := ixA hj2
    have f : ∀ {K : Value → Prop}, sLd h' (ptr k (3 + j)) K = K (.int .i64 (t.cc j)) := s.ld (t.at_cc j hj2)
    simp only [ix, f, ev_lt, ev_gt, ev_or_p, ev_if]
    have hb : (decide (t.cc j < 0) || decide (255 < t.cc j)) = !byteB (t.cc j) := by
      unfold byteB
      rw [Bool.eq_iff_iff]
      simp only [Bool.or_eq_true, decide_eq_true_eq, Bool.not_eq_true', Bool.and_eq_false_iff, decide_eq_false_iff_not]
      omega
    rw [hb]
    cases hb : byteB (t.cc j) with
    | false =>
      rw [if_pos (by decide), ← ccOk_false hj2 hb]; exact H _ s.ext
    | true =>
      rw [if_neg (by decide), ev_add, wrap_i64 (by omega) (by omega)]
      exact ⟨⟨j + 1, rfl, by omega, by first | rfl | trivial, by rw [ccOk_succ, hok, hb]; rfl⟩, by simp only []; omega⟩
  · rw [if_neg (by omega)]
    have : j = 12 := by omega
    subst this
    have f0 : ∀ {K : Value → Prop}, sLd h' (ptr k 0) K = K (.int .i64 t.i) := s.ld rfl
    have f1 : ∀ {K : Value → Prop}, sLd h' (ptr k 1) K = K (.int .i64 t.o) := s.ld rfl
    have f2 : ∀ {K : Value → Prop}, sLd h' (ptr k 2) K = K (.int .i64 t.l) := s.ld rfl
    have f3 : ∀ {K : Value → Prop}, sLd h' (ptr k 15) K = K (.int .i64 t.m) := s.ld rfl
    have f4 : ∀ {K : Value → Prop}, sLd h' (ptr k 16) K = K (.int .i64 t.t) := s.ld rfl
    simp only [f0, f1, f2, f3, f4, ev_ge, ev_le, ev_and_p]
    have := H h' s.ext
    unfold Tm.right witB byteB at this
    rw [hok, Bool.true_and] at this
    simpa only [Bool.and_assoc] using this
def partT (n : Nat) : Tm := ⟨84, 3, 623, fun j => if j < n then plainCc j else 0, 1, 0⟩
theorem part_set : ∀ n, n < 12 → (partT n).c.setIfInBounds (3 + n) (.int .i64 (plainCc n)) = (partT (n + 1)).c
  | 0, _ | 1, _ | 2, _ | 3, _ | 4, _ | 5, _ | 6, _ | 7, _ | 8, _ | 9, _ | 10, _ | 11, _ => rfl
  | n + 12, h => by omega
def plainL : List Int := [3, 28, 26, 4, 0, 127, 21, 23, 18, 22, 17, 19]
theorem plainL_at : ∀ n, n < 12 → plainL[n]? = some (plainCc n)
  | 0, _ | 1, _ | 2, _ | 3, _ | 4, _ | 5, _ | 6, _ | 7, _ | 8, _ | 9, _ | 10, _ | 11, _ => rfl
  | n + 12, h => by omega
theorem rplain_spec (H : ∀ h', Ext h h' → R plainT.v h') : betonyref17_Plain_c h R := by
  apply betonyref17_Plain_runs
  unfold betonyref17_Plain_S
  refine (HW.Sep.start h).new (fun k h1 s => ?_)
  refine build_intro (cs := (partT 0).c) (fill_k (by kernel_rfl)) ?_
  refine s.new (fun k2 h2 s2 => ?_)
  refine s2.stall (cs := (partT 0).c) rfl rfl (partT 0).cell1 (fun h3 s3 => ?_)
  refine s3.slit (enc := encI .i64) (sz := 1) (encI_len _) plainL rfl (fill_k (by kernel_rfl)) (fun v h4 _ s4 => ?_)
  refine ⟨fun s h' => ∃ j : Nat, s = .int .i64 j ∧ j ≤ 12 ∧ HW.Sep h [Sl (encI .i64) 1 v plainL, Blk k2 (partT j).c 28, Blk k #[.int .i64 0, .int .i64 0, .int .i64 0, .int .i64 0, .int .i64 0, .int .i64 0, .int .i64 0, .int .i64 0, .int .i64 0, .int .i64 0, .int .i64 0, .int .i64 0, .int .i64 0, .int .i64 0, .int .i64 0, .int .i64 0, .int .i64 0] 28] h', fun s _ => match s with | .int _ j => (12 - j).toNat | _ => 0, ⟨0, rfl, by omega, s4⟩, ?_⟩
  rintro _ h' ⟨j, rfl, hj, s5⟩
  simp only []
  unfold betonyref17_Plain_l1
  simp only [ev_lt, ev_if, decide_eq_true_eq, ev_off, Nat.zero_add]
  by_cases hj2 : j < 12
  · rw [if_pos (by omega), s5.seq.ld (plainL_at j hj2) rfl, ixA hj2]
    refine s5.b1.st (by show 3 + j < 17; omega) trivial (fun h6 s6 => ?_)
    rw [part_set j hj2] at s6
    rw [ev_add, wrap_i64 (by omega) (by omega)]
    exact ⟨⟨j + 1, rfl, by omega, s6.b1⟩, by simp only []; omega⟩
  · rw [if_neg (by omega)]
    have : j = 12 := by omega
    subst this
    rw [s5.b1.ldall (n := 17) rfl]
    refine s5.b2.stall (cs := plainT.c) rfl rfl plainT.cell1 (fun h7 s7 => ?_)
    rw [s7.ldall (n := 17) rfl]
    exact H _ s7.ext
end
abbrev ks17 : List (Option IntKind) := [some .i64, some .i64, some .i64, some .i64, some .i64, some .i64, some .i64, some .i64, some .i64, some .i64, some .i64, some .i64, some .i64, some .i64, some .i64, some .i64, some .i64]
theorem okC_tm (t : Tm) : okC ks17 t.c.toList := by simp [Tm.c, Tm.e, okC]
theorem eqVs_self : ∀ {ks : List (Option IntKind)} {l : List Value}, okC ks l → eqVs l l = true
  | [], [], _ => rfl
  | some k :: ks, .int _ a :: l, h => by simp [eqVs, eqV, eqVs_self h.2]
  | none :: ks, .bool a :: l, h => by simp [eqVs, eqV, eqVs_self (ks := ks) h]

theorem map_rng (t : Tm) {c : Int} (hc : 0 ≤ c ∧ c < 256) : 0 ≤ (t.map c).1 ∧ (t.map c).1 < 256 := by
  unfold Tm.map
  simp only
  have : 0 ≤ (if hasB t.i 1 = true then c % 128 else c) ∧ (if hasB t.i 1 = true then c % 128 else c) < 256 := by split <;> omega
  generalize (if hasB t.i 1 = true then c % 128 else c) = d at *
  split
  · simp
  · split
    · simp
    · split
      · simp
      · exact this
theorem map_zero (t : Tm) {c : Int} (h : (t.map c).2 = false) : (t.map c).1 = 0 := by
  unfold Tm.map at *
  simp only at *
  generalize (if hasB t.i 1 = true then c % 128 else c) = d at *
  by_cases h1 : (d == 13 && hasB t.i 2) = true
  · rw [if_pos h1]
  · rw [if_neg h1] at h
    split at h
    · cases h
    · split at h <;> cases h
theorem tm_of {h : Heap} {cs : List Value} (r : Rep (.agg (.cons (.int .i64) (.cons (.int .i64) (.cons (.int .i64) (.cons (.agg (.cons (.int .i64) (.cons (.int .i64) (.cons (.int .i64) (.cons (.int .i64) (.cons (.int .i64) (.cons (.int .i64) (.cons (.int .i64) (.cons (.int .i64) (.cons (.int .i64) (.cons (.int .i64) (.cons (.int .i64) (.cons (.int .i64) .nil))))))))))))) (.cons (.int .i64) (.cons (.int .i64) .nil))))))) h cs) : ∃ t : Tm, cs = t.e := by
  obtain ⟨_, _, rfl, ⟨i, rfl, _⟩, _, _, rfl, ⟨o, rfl, _⟩, _, _, rfl, ⟨l, rfl, _⟩, _, _, rfl, ⟨_, _, rfl, ⟨c0, rfl, _⟩, ⟨_, _, rfl, ⟨c1, rfl, _⟩, ⟨_, _, rfl, ⟨c2, rfl, _⟩, ⟨_, _, rfl, ⟨c3, rfl, _⟩, ⟨_, _, rfl, ⟨c4, rfl, _⟩, ⟨_, _, rfl, ⟨c5, rfl, _⟩, ⟨_, _, rfl, ⟨c6, rfl, _⟩, ⟨_, _, rfl, ⟨c7, rfl, _⟩, ⟨_, _, rfl, ⟨c8, rfl, _⟩, ⟨_, _, rfl, ⟨c9, rfl, _⟩, ⟨_, _, rfl, ⟨c10, rfl, _⟩, ⟨_, _, rfl, ⟨c11, rfl, _⟩, rfl⟩⟩⟩⟩⟩⟩⟩⟩⟩⟩⟩⟩, _, _, rfl, ⟨m, rfl, _⟩, _, _, rfl, ⟨t, rfl, _⟩, rfl⟩ := r
  exact ⟨⟨i, o, l, fun j => match j with | 0 => c0 | 1 => c1 | 2 => c2 | 3 => c3 | 4 => c4 | 5 => c5 | 6 => c6 | 7 => c7 | 8 => c8 | 9 => c9 | 10 => c10 | 11 => c11 | _ => 0, m, t⟩, rfl⟩
end Go.Proofs.Ytlcklnbgknhhkaa

end

section
/- The line discipline: its state; what each function of it comes to. -/
set_option linter.unusedSimpArgs false
set_option linter.unusedVariables false
namespace Go.Proofs.Ytlcklnbgknhhkaa
open Go Go.HW

abbrev CV := {v : Value // Cell1 v}
def encCV (c : CV) : List Value := [c.1]
theorem encCV_len (c : CV) : (encCV c).length = 1 := rfl
theorem encCV_cell (c : CV) : ∀ u ∈ encCV c, Cell1 u := by intro u hu; simp [encCV] at hu; subst hu; exact c.2
def rowsU (rs : List (CV × List Int)) : HP := HP.all (rs.map fun p => Sl (encI .u8) 1 p.1.1 p.2)

structure D where
  t : Tm
  ln : List Int
  ls : List (List Int)
  ra : List Int
  st : Bool
  nx : Bool
  ec : List Int
def D.loc (d : D) (f : Int) : Bool := hasB d.t.l f
def D.inn (d : D) (f : Int) : Bool := hasB d.t.i f
def D.pict (d : D) (c : Int) : List Int := if (d.loc 32 && ((decide (c < 32) && c != 9 && c != 10) || c == 127)) = true then [94, bitsOf .xor .u8 c 64] else [c]
def D.emit (d : D) (l : List Int) : D := { d with ec := d.ec ++ l }
def D.show (d : D) (c : Int) : D := if d.loc 2 = true then d.emit (d.pict c) else d
def D.bell (d : D) : D := if d.inn 64 = true then d.emit [7] else d
def D.ends (d : D) (c : Int) : Bool := c == 10 || d.t.is 4 c
def D.put1 (d : D) (c : Int) : D := (if (c == 10 && d.loc 1 && d.loc 16 && !d.loc 2) = true then d.emit [c] else d).show c
def D.put (d : D) (c : Int) : D × Bool :=
  if (!d.loc 1 && decide (d.ra.length < 1024)) = true then (({ d with ra := d.ra ++ [c] } : D).put1 c, true)
  else if (d.loc 1 && (decide (d.ln.length < 254) || (d.ends c && decide (d.ln.length < 255)))) = true then (({ d with ln := d.ln ++ [c] } : D).put1 c, true)
  else (d.bell, false)
def backs : Nat → List Int
  | 0 => []
  | n + 1 => backs n ++ [8, 32, 8]
def D.cutLast (d : D) : D := { d with ln := d.ln.dropLast }
def D.back (d : D) : D := if (!d.loc 2 || !d.loc 4) = true then d.cutLast else d.cutLast.emit (backs (d.pict (d.ln.getLastD 0)).length)
def sumL (ls : List (List Int)) : Nat := (ls.map List.length).sum
def D.readyN (d : D) : Nat := d.ra.length + sumL d.ls
def D.ready (d : D) : D := if d.readyN + d.ln.length > 1024 then { d.bell with ln := [] } else { d with ls := d.ls ++ [d.ln], ln := [] }
def D.flush (d : D) : D := { d with ln := [], ls := [], ra := [] }
/-- How much there is of it. -/
def D.wt (d : D) : Nat := d.ln.length * 8 + d.ec.length + d.ra.length + d.ls.length + sumL d.ls
theorem pict_len (d : D) (c : Int) : (d.pict c).length ≤ 2 ∧ 1 ≤ (d.pict c).length := by unfold D.pict; split <;> simp
theorem backs_len : ∀ n, (backs n).length = 3 * n
  | 0 => rfl
  | n + 1 => by rw [backs, List.length_append, backs_len n]; simp; omega
theorem emit_wt (d : D) (l : List Int) : (d.emit l).wt = d.wt + l.length := by unfold D.emit D.wt; simp only [List.length_append]; omega
theorem show_wt (d : D) (c : Int) : (d.show c).wt ≤ d.wt + 2 := by
  unfold D.show; split
  · rw [emit_wt]; have := (pict_len d c).1; omega
  · omega
theorem bell_wt (d : D) : d.bell.wt ≤ d.wt + 1 := by
  unfold D.bell; split
  · rw [emit_wt]; simp
  · omega
theorem put1_wt (d : D) (c : Int) : (d.put1 c).wt ≤ d.wt + 3 := by
  unfold D.put1
  split
  · have := show_wt (d.emit [c]) c; rw [emit_wt] at this; simp at this; omega
  · have := show_wt d c; omega
theorem put_wt (d : D) (c : Int) : (d.put c).1.wt ≤ d.wt + 11 := by
  unfold D.put
  split
  · have := put1_wt { d with ra := d.ra ++ [c] } c
    have e : ({ d with ra := d.ra ++ [c] } : D).wt = d.wt + 1 := by unfold D.wt; simp only [List.length_append, List.length_cons, List.length_nil]; omega
    simp only; omega
  · split
    · have := put1_wt { d with ln := d.ln ++ [c] } c
      have e : ({ d with ln := d.ln ++ [c] } : D).wt = d.wt + 8 := by unfold D.wt; simp only [List.length_append, List.length_cons, List.length_nil]; omega
      simp only; omega
    · have := bell_wt d; simp only; omega
theorem cut_wt (d : D) (h : d.ln ≠ []) : d.cutLast.wt + 8 = d.wt := by
  unfold D.cutLast D.wt
  have : 0 < d.ln.length := by cases hd : d.ln with
    | nil => exact (h hd).elim
    | cons a b => simp
  simp only [List.length_dropLast]; omega
theorem back_wt (d : D) (h : d.ln ≠ []) : d.back.wt ≤ d.wt := by
  have := cut_wt d h
  unfold D.back
  split
  · omega
  · rw [emit_wt, backs_len]; have := (pict_len d (d.ln.getLastD 0)).1; omega
theorem sumL_append (a : List (List Int)) (l : List Int) : sumL (a ++ [l]) = sumL a + l.length := by unfold sumL; simp
theorem ready_wt (d : D) : d.ready.wt ≤ d.wt + 1 := by
  unfold D.ready
  split
  · have e : ({ d.bell with ln := [] } : D).wt ≤ d.bell.wt := by unfold D.wt; simp only [List.length_nil]; omega
    have := bell_wt d; omega
  · unfold D.wt; simp only [List.length_append, List.length_cons, List.length_nil, sumL_append]; omega

def dC (d : D) (lv sv rv ev : Value) : Array Value := (d.t.e ++ [lv, sv, rv, .bool d.st, .bool d.nx, ev]).toArray
def Dc (k : Nat) (d : D) : HP := HP.ex fun p : (Value × Value × Value × Value) × {rs : List (CV × List Int) // rs.map (·.2) = d.ls} => HP.all [Blk k (dC d p.1.1 p.1.2.1 p.1.2.2.1 p.1.2.2.2) 72, Sl (encI .u8) 1 p.1.1 d.ln, Sl encCV 1 p.1.2.1 (p.2.1.map (·.1)), rowsU p.2.1, Sl (encI .u8) 1 p.1.2.2.1 d.ra, Sl (encI .u8) 1 p.1.2.2.2 d.ec]

theorem idx_perm (L : List HP) (idx : List Nat) (h : idx.Perm (List.range L.length)) : L.Perm (idx.map fun i => L.getD i HP.emp) := by
  have e : (List.range L.length).map (fun i => L.getD i HP.emp) = L := by
    refine List.ext_getElem (by simp) (fun i h1 h2 => ?_)
    simp [List.getD_eq_getElem?_getD, List.getElem?_eq_getElem h2]
  have := (h.map fun i => L.getD i HP.emp).symm
  rwa [e] at this
/-- The first ones in another order. -/
theorem selF {h0 h : Heap} {F L : List HP} (s : HW.Sep h0 (L ++ F) h) (idx : List Nat) (hn : L.length = idx.length) (hp : idx.Perm (List.range idx.length)) : HW.Sep h0 ((idx.map fun i => L.getD i HP.emp) ++ F) h := s.perm ((idx_perm L idx (hn ▸ hp)).append_right F)
section
variable {h0 h : Heap} {F : List HP} {R : Value → Heap → Prop} {k : Nat} {d : D} {lv sv rv ev : Value} {rs : List (CV × List Int)}
theorem p5 {A B C D E G : HP} (s : HW.Sep h0 (A :: B :: C :: D :: E :: G :: F) h) : HW.Sep h0 (B :: C :: D :: E :: G :: A :: F) h := s.perm (List.perm_middle (l₁ := [B, C, D, E, G])).symm
theorem Dopen (s : HW.Sep h0 (Dc k d :: F) h) : ∃ lv sv rv ev, ∃ rs : List (CV × List Int), rs.map (·.2) = d.ls ∧ HW.Sep h0 (Blk k (dC d lv sv rv ev) 72 :: Sl (encI .u8) 1 lv d.ln :: Sl encCV 1 sv (rs.map (·.1)) :: rowsU rs :: Sl (encI .u8) 1 rv d.ra :: Sl (encI .u8) 1 ev d.ec :: F) h := by
  obtain ⟨⟨⟨lv, sv, rv, ev⟩, rs, e⟩, s⟩ := s.open_ex
  exact ⟨lv, sv, rv, ev, rs, e, s.open_all⟩
theorem Dshut (e : rs.map (·.2) = d.ls) (s : HW.Sep h0 (Blk k (dC d lv sv rv ev) 72 :: Sl (encI .u8) 1 lv d.ln :: Sl encCV 1 sv (rs.map (·.1)) :: rowsU rs :: Sl (encI .u8) 1 rv d.ra :: Sl (encI .u8) 1 ev d.ec :: F) h) : HW.Sep h0 (Dc k d :: F) h :=
  Sep.shut_ex (A := fun p : (Value × Value × Value × Value) × {rs : List (CV × List Int) // rs.map (·.2) = d.ls} => HP.all [Blk k (dC d p.1.1 p.1.2.1 p.1.2.2.1 p.1.2.2.2) 72, Sl (encI .u8) 1 p.1.1 d.ln, Sl encCV 1 p.1.2.1 (p.2.1.map (·.1)), rowsU p.2.1, Sl (encI .u8) 1 p.1.2.2.1 d.ra, Sl (encI .u8) 1 p.1.2.2.2 d.ec]) (((lv, sv, rv, ev), ⟨rs, e⟩)) (Sep.shut_all (L := [_, _, _, _, _, _]) s)
theorem tup0 {a b : Value} {K : Value → Prop} : sTup (.tuple #[a, b]) 0 K = K a := by rw [ev_tup]; rfl
theorem tup1 {a b : Value} {K : Value → Prop} : sTup (.tuple #[a, b]) 1 K = K b := by rw [ev_tup]; rfl
theorem bits_has {o k : Int} {K : Value → Prop} : sBits .and .i64 (.int .i64 o) (.int .i64 k) (fun x => sNe x (.int .i64 0) K) = K (.bool (hasB o k)) := by rw [ev_bits, ev_ne]; rfl
theorem local_b {f : Int} (b : h.has k (dC d lv sv rv ev) 72) (H : R (.bool (d.loc f)) h) : ldisc_Disc_local_c (ptr k 0) (.int .i64 f) h R := by
  apply ldisc_Disc_local_runs
  unfold ldisc_Disc_local_S
  have f2 : ∀ {K : Value → Prop}, sLd h (ptr k 2) K = K (.int .i64 d.t.l) := ev_ld_has b rfl
  simp only [ev_nil, ev_off, Nat.zero_add, f2]
  rw [bits_has]
  exact H
theorem in_b {f : Int} (b : h.has k (dC d lv sv rv ev) 72) (H : R (.bool (d.inn f)) h) : ldisc_Disc_in_c (ptr k 0) (.int .i64 f) h R := by
  apply ldisc_Disc_in_runs
  unfold ldisc_Disc_in_S
  have f2 : ∀ {K : Value → Prop}, sLd h (ptr k 0) K = K (.int .i64 d.t.i) := ev_ld_has b rfl
  simp only [ev_nil, ev_off, Nat.zero_add, f2]
  rw [bits_has]
  exact H
theorem Dhas (s : HW.Sep h0 (Dc k d :: F) h) : ∃ lv sv rv ev, h.has k (dC d lv sv rv ev) 72 := by
  obtain ⟨lv, sv, rv, ev, rs, e, s⟩ := Dopen s
  exact ⟨lv, sv, rv, ev, s.has⟩
theorem local_spec {f : Int} (s : HW.Sep h0 (Dc k d :: F) h) (H : R (.bool (d.loc f)) h) : ldisc_Disc_local_c (ptr k 0) (.int .i64 f) h R := by
  obtain ⟨lv, sv, rv, ev, b⟩ := Dhas s
  exact local_b b H
theorem in_spec {f : Int} (s : HW.Sep h0 (Dc k d :: F) h) (H : R (.bool (d.inn f)) h) : ldisc_Disc_in_c (ptr k 0) (.int .i64 f) h R := by
  obtain ⟨lv, sv, rv, ev, b⟩ := Dhas s
  exact in_b b H
theorem blk_part {h : Heap} {k t o n : Nat} {c : Array Value} {K : Value → Prop} (hb : h.has k c t) (ys rest : List Value) (hp : c.toList.drop o = ys ++ rest) (hn : ys.length = n) : sLdN h (ptr k o) n K = K (.agg ys.toArray) := by
  have hl : h.lay k o ys := fun i u hu => by
    rw [hb.at]
    have : (c.toList.drop o)[i]? = some u := by rw [hp, List.getElem?_append_left (List.getElem?_eq_some_iff.1 hu).1]; exact hu
    rw [List.getElem?_drop] at this
    simpa using this
  rw [hl.ldn hn]
theorem dt_ld (b : h.has k (dC d lv sv rv ev) 72) {K : Value → Prop} : sLdN h (ptr k 0) 17 K = K d.t.v := blk_part b d.t.e [lv, sv, rv, .bool d.st, .bool d.nx, ev] rfl rfl
theorem dis_b {w c : Int} (b : h.has k (dC d lv sv rv ev) 72) (hc : 0 ≤ c ∧ c < 256) (H : ∀ h', Ext h h' → R (.bool (d.t.is w c)) h') : ldisc_Disc_is_c (ptr k 0) (.int .i64 w) (.int .u8 c) h R := by
  apply ldisc_Disc_is_runs
  unfold ldisc_Disc_is_S
  rw [ev_nil, ev_off, Nat.zero_add, dt_ld b]
  exact is_spec hc H
theorem dis_spec {w c : Int} (s : HW.Sep h0 (Dc k d :: F) h) (hc : 0 ≤ c ∧ c < 256) (H : ∀ h', HW.Sep h0 (Dc k d :: F) h' → R (.bool (d.t.is w c)) h') : ldisc_Disc_is_c (ptr k 0) (.int .i64 w) (.int .u8 c) h R := by
  obtain ⟨lv, sv, rv, ev, b⟩ := Dhas s
  exact dis_b b hc (fun h' e => H h' (s.ext' e))
theorem ends_spec {c : Int} (s : HW.Sep h0 (Dc k d :: F) h) (hc : 0 ≤ c ∧ c < 256) (H : ∀ h', Ext h h' → R (.bool (d.ends c)) h') : ldisc_Disc_ends_c (ptr k 0) (.int .u8 c) h R := by
  apply ldisc_Disc_ends_runs
  unfold ldisc_Disc_ends_S
  obtain ⟨lv, sv, rv, ev, b⟩ := Dhas s
  rw [ev_eq]
  refine or_ext (y := d.t.is 4 c) (fun _ K' HK => dis_b b hc (fun h' e => HK _ e)) (fun h' e => H h' e)
theorem picture_b {c : Int} (b : h.has k (dC d lv sv rv ev) 72) (s : HW.Sep h0 F h) (H : ∀ v h', Cell1 v → HW.Sep h0 (Sl (encI .u8) 1 v (d.pict c) :: F) h' → R v h') : ldisc_Disc_picture_c (ptr k 0) (.int .u8 c) h R := by
  apply ldisc_Disc_picture_runs
  unfold ldisc_Disc_picture_S
  refine local_b b ?_
  simp only [ev_lt, ev_ne, ev_and_p, ev_eq, ev_or_p, ev_if, ev_bits]
  unfold D.pict at H
  split
  · rename_i hp
    rw [if_pos hp] at H
    exact s.slit (enc := encI .u8) (sz := 1) (encI_len .u8) [94, bitsOf .xor .u8 c 64] rfl ⟨rfl, Nat.le_of_ble_eq_true rfl, rfl, Nat.le_of_ble_eq_true rfl, rfl⟩ (fun v h1 cv s1 => H v h1 cv s1)
  · rename_i hp
    rw [if_neg hp] at H
    exact s.slit (enc := encI .u8) (sz := 1) (encI_len .u8) [c] rfl ⟨rfl, Nat.le_of_ble_eq_true rfl, rfl⟩ (fun v h1 cv s1 => H v h1 cv s1)
/-- Bytes are added to what is shown. -/
theorem emit_o {K : Heap → Prop} {z : Array Value} {ps : List (Nat × Nat × Value)} {n : Nat} (s : HW.Sep h0 (Blk k (dC d lv sv rv ev) 72 :: Sl (encI .u8) 1 lv d.ln :: Sl encCV 1 sv (rs.map (·.1)) :: rowsU rs :: Sl (encI .u8) 1 rv d.ra :: Sl (encI .u8) 1 ev d.ec :: F) h) (l : List Int) (hl : l.length = n) (hf : sFill z ps fun cs => cs = (l.flatMap (encI .u8)).toArray) (hb : d.wt ≤ 1073741824) (hn : n ≤ 1000) (HK : ∀ ev' h', HW.Sep h0 (Blk k (dC (d.emit l) lv sv rv ev') 72 :: Sl (encI .u8) 1 lv d.ln :: Sl encCV 1 sv (rs.map (·.1)) :: rowsU rs :: Sl (encI .u8) 1 rv d.ra :: Sl (encI .u8) 1 ev' (d.ec ++ l) :: F) h' → K h') :
    sNil (ptr k 0) fun x6 => sOff x6 22 fun x7 => sLd h x7 fun x8 => sSlit h z ps 5 n fun x9 h1 => sApp h1 x8 x9 #[.int .u8 0] 5 1 fun x10 h2 => sNil (ptr k 0) fun x11 => sOff x11 22 fun x12 => sSt h2 x12 x10 fun h3 => K h3 := by
  have f22 : ∀ {K : Value → Prop}, sLd h (ptr k 22) K = K ev := s.ld rfl
  simp only [ev_nil, ev_off, Nat.zero_add, f22]
  unfold D.wt at hb
  refine s.slit (enc := encI .u8) (sz := 1) (encI_len .u8) l hl hf (fun v h1 cv s1 => ?_)
  refine s1.b6.app (enc := encI .u8) (sz := 1) rfl (by decide) (encI_len .u8) (encI_cell .u8) s1.seq (by omega) (by decide) (fun v2 h2 cv2 s2 => ?_)
  refine s2.b2.st (Nat.le_of_ble_eq_true rfl) cv2 (fun h3 s3 => ?_)
  have s4 : HW.Sep h0 (Blk k (dC (d.emit l) lv sv rv v2) 72 :: Sl (encI .u8) 1 v2 (d.ec ++ l) :: Sl (encI .u8) 1 v l :: Sl (encI .u8) 1 lv d.ln :: Sl encCV 1 sv (rs.map (·.1)) :: rowsU rs :: Sl (encI .u8) 1 rv d.ra :: F) h3 := s3
  exact HK v2 h3 (p5 s4.b2.tail.b1)
theorem emit_spec {K : Heap → Prop} {z : Array Value} {ps : List (Nat × Nat × Value)} {n : Nat} (s : HW.Sep h0 (Dc k d :: F) h) (l : List Int) (hl : l.length = n) (hf : sFill z ps fun cs => cs = (l.flatMap (encI .u8)).toArray) (hb : d.wt ≤ 1073741824) (hn : n ≤ 1000) (HK : ∀ h', HW.Sep h0 (Dc k (d.emit l) :: F) h' → K h') :
    sNil (ptr k 0) fun x6 => sOff x6 22 fun x7 => sLd h x7 fun x8 => sSlit h z ps 5 n fun x9 h1 => sApp h1 x8 x9 #[.int .u8 0] 5 1 fun x10 h2 => sNil (ptr k 0) fun x11 => sOff x11 22 fun x12 => sSt h2 x12 x10 fun h3 => K h3 := by
  obtain ⟨lv, sv, rv, ev, rs, e, s⟩ := Dopen s
  exact emit_o s l hl hf hb hn (fun ev' h' s' => HK h' (Dshut (d := d.emit l) e s'))
theorem bell_spec (s : HW.Sep h0 (Dc k d :: F) h) (hb : d.wt ≤ 1073741824) (H : ∀ h', HW.Sep h0 (Dc k d.bell :: F) h' → R unit h') : ldisc_Disc_bell_c (ptr k 0) h R := by
  apply ldisc_Disc_bell_runs
  unfold ldisc_Disc_bell_S
  refine in_spec s ?_
  unfold D.bell at H
  rw [ev_if]
  cases hh : d.inn 64 with
  | true => rw [hh] at H; rw [if_pos rfl]; exact emit_spec s [7] rfl ⟨rfl, Nat.le_of_ble_eq_true rfl, rfl⟩ hb (by decide) H
  | false => rw [hh] at H; rw [if_neg (by decide)]; exact H h s
theorem show_o {c : Int} (s : HW.Sep h0 (Blk k (dC d lv sv rv ev) 72 :: Sl (encI .u8) 1 lv d.ln :: Sl encCV 1 sv (rs.map (·.1)) :: rowsU rs :: Sl (encI .u8) 1 rv d.ra :: Sl (encI .u8) 1 ev d.ec :: F) h) (hb : d.wt ≤ 1073741824) (H : ∀ ev' h', HW.Sep h0 (Blk k (dC (d.show c) lv sv rv ev') 72 :: Sl (encI .u8) 1 lv d.ln :: Sl encCV 1 sv (rs.map (·.1)) :: rowsU rs :: Sl (encI .u8) 1 rv d.ra :: Sl (encI .u8) 1 ev' (d.show c).ec :: F) h' → R unit h') : ldisc_Disc_show_c (ptr k 0) (.int .u8 c) h R := by
  apply ldisc_Disc_show_runs
  unfold ldisc_Disc_show_S
  refine local_b s.has ?_
  unfold D.show at H
  rw [ev_if]
  cases hh : d.loc 2 with
  | false => rw [hh] at H; rw [if_neg (by decide)]; exact H ev h s
  | true =>
    rw [hh, if_pos rfl] at H
    rw [if_pos rfl]
    have b : h.has k (dC d lv sv rv ev) 72 := s.has
    refine ⟨fun h' => h'.has k (dC d lv sv rv ev) 72, b, ?_⟩
    have c22 : ∀ {K : Value → Prop}, sLdC (fun h' => h'.has k (dC d lv sv rv ev) 72) (ptr k 22) K = K ev := fun {K} => ldc_at (C := fun h' => h'.has k (dC d lv sv rv ev) 72) (h0 := h) b (fun h' e => by rw [e.at]; rfl)
    rw [ev_nil, ev_off, Nat.zero_add, c22]
    refine picture_b b s (fun v h1 cv s1 => ⟨s1.b1.has, ?_⟩)
    have pl := (pict_len d c).1
    unfold D.wt at hb
    refine s1.b6.app (enc := encI .u8) (sz := 1) rfl (by decide) (encI_len .u8) (encI_cell .u8) s1.seq (by omega) (by decide) (fun v2 h2 cv2 s2 => ?_)
    rw [ev_nil, ev_off, Nat.zero_add]
    refine s2.b2.st (Nat.le_of_ble_eq_true rfl) cv2 (fun h3 s3 => ?_)
    have s4 : HW.Sep h0 (Blk k (dC (d.emit (d.pict c)) lv sv rv v2) 72 :: Sl (encI .u8) 1 v2 (d.ec ++ d.pict c) :: Sl (encI .u8) 1 v (d.pict c) :: Sl (encI .u8) 1 lv d.ln :: Sl encCV 1 sv (rs.map (·.1)) :: rowsU rs :: Sl (encI .u8) 1 rv d.ra :: F) h3 := s3
    exact H v2 h3 (p5 s4.b2.tail.b1)
theorem show_spec {c : Int} (s : HW.Sep h0 (Dc k d :: F) h) (hb : d.wt ≤ 1073741824) (H : ∀ h', HW.Sep h0 (Dc k (d.show c) :: F) h' → R unit h') : ldisc_Disc_show_c (ptr k 0) (.int .u8 c) h R := by
  obtain ⟨lv, sv, rv, ev, rs, e, s⟩ := Dopen s
  have el : (d.show c).ln = d.ln := by unfold D.show; split <;> rfl
  have es : (d.show c).ls = d.ls := by unfold D.show; split <;> rfl
  have er : (d.show c).ra = d.ra := by unfold D.show; split <;> rfl
  refine show_o s hb (fun ev' h' s' => H h' (Dshut (d := d.show c) (rs := rs) (lv := lv) (sv := sv) (rv := rv) (ev := ev') (by rw [es]; exact e) ?_))
  rw [el, er]; exact s'
theorem put_j2 {c : Int} (s : HW.Sep h0 (Dc k d :: F) h) (hb : d.wt ≤ 1073741824) (H : ∀ h', HW.Sep h0 (Dc k (d.show c) :: F) h' → R (.bool true) h') : ldisc_Disc_put_j2 R (ptr k 0) (.int .u8 c) h := by
  unfold ldisc_Disc_put_j2
  exact show_spec s hb (fun h' s' => H h' s')
theorem put_j1 {c : Int} (s : HW.Sep h0 (Dc k d :: F) h) (hb : d.wt ≤ 1073741823) (H : ∀ h', HW.Sep h0 (Dc k (d.put1 c) :: F) h' → R (.bool true) h') : ldisc_Disc_put_j1 R (ptr k 0) (.int .u8 c) h := by
  unfold ldisc_Disc_put_j1
  rw [ev_eq]
  refine and_ext (y := d.loc 1) (fun _ K' HK => local_spec s (HK _ (Ext.refl _))) (fun h1 e1 => ?_)
  have s1 := s.ext' e1
  refine and_ext (y := d.loc 16) (fun _ K' HK => local_spec s1 (HK _ (Ext.refl _))) (fun h2 e2 => ?_)
  have s2 := s1.ext' e2
  refine and_ext (y := !d.loc 2) (fun _ K' HK => local_spec s2 (by rw [ev_not]; exact HK _ (Ext.refl _))) (fun h3 e3 => ?_)
  have s3 := s2.ext' e3
  rw [ev_if]
  unfold D.put1 at H
  split
  · rename_i hp
    rw [if_pos hp] at H
    exact emit_spec s3 [c] rfl ⟨rfl, Nat.le_of_ble_eq_true rfl, rfl⟩ (by omega) (by decide) (fun h4 s4 => put_j2 s4 (by rw [emit_wt]; simp; omega) H)
  · rename_i hp
    rw [if_neg hp] at H
    exact put_j2 s3 (by omega) H
theorem lens (s : HW.Sep h0 (Dc k d :: F) h) : ∃ lv sv rv ev, h.has k (dC d lv sv rv ev) 72 ∧ Seq (encI .u8) 1 h lv d.ln ∧ Seq (encI .u8) 1 h rv d.ra ∧ Seq (encI .u8) 1 h ev d.ec := by
  obtain ⟨lv, sv, rv, ev, rs, e, s⟩ := Dopen s
  exact ⟨lv, sv, rv, ev, s.has, s.b1.seq, s.b4.seq, s.b5.seq⟩
theorem put_spec {c : Int} (s : HW.Sep h0 (Dc k d :: F) h) (hc : 0 ≤ c ∧ c < 256) (hb : d.wt ≤ 1073741000) (H : ∀ h', HW.Sep h0 (Dc k (d.put c).1 :: F) h' → R (.bool (d.put c).2) h') : ldisc_Disc_put_c (ptr k 0) (.int .u8 c) h R := by
  apply ldisc_Disc_put_runs
  unfold ldisc_Disc_put_S
  refine local_spec s ?_
  obtain ⟨lv, sv, rv, ev, rs, e, so⟩ := Dopen s
  have f19 : ∀ {K : Value → Prop}, sLd h (ptr k 19) K = K rv := so.ld rfl
  have l19 : ∀ {K : Value → Prop}, sLen rv K = K (.int .i64 d.ra.length) := fun {K} => so.b4.seq.len
  simp only [ev_nil, ev_off, Nat.zero_add, f19, l19, ev_not, ev_lt, ev_and_p, ev_if]
  unfold D.put at H
  have hl : decide ((d.ra.length : Int) < 1024) = decide (d.ra.length < 1024) := by rw [Bool.eq_iff_iff]; simp; omega
  rw [hl]
  have wts := hb
  unfold D.wt at wts
  by_cases h1 : (!d.loc 1 && decide (d.ra.length < 1024)) = true
  · rw [if_pos h1] at H ⊢
    refine so.slit (enc := encI .u8) (sz := 1) (encI_len .u8) [c] rfl ⟨rfl, Nat.le_of_ble_eq_true rfl, rfl⟩ (fun v h2 cv s1 => ?_)
    refine s1.b5.app (enc := encI .u8) (sz := 1) rfl (by decide) (encI_len .u8) (encI_cell .u8) s1.seq (by simp only [List.length_cons, List.length_nil]; omega) (by decide) (fun v2 h3 cv2 s2 => ?_)
    refine s2.b2.st (Nat.le_of_ble_eq_true rfl) cv2 (fun h4 s3 => ?_)
    have s4 : HW.Sep h0 (Blk k (dC { d with ra := d.ra ++ [c] } lv sv v2 ev) 72 :: Sl (encI .u8) 1 v2 (d.ra ++ [c]) :: Sl (encI .u8) 1 v [c] :: Sl (encI .u8) 1 lv d.ln :: Sl encCV 1 sv (rs.map (·.1)) :: rowsU rs :: Sl (encI .u8) 1 ev d.ec :: F) h4 := s3
    refine put_j1 (d := { d with ra := d.ra ++ [c] }) (Dshut e s4.b2.tail.b1.p4) (by unfold D.wt; simp only [List.length_append, List.length_cons, List.length_nil]; omega) H
  rw [if_neg h1] at H ⊢
  refine local_spec s ?_
  refine and_ext (y := (decide (d.ln.length < 254) || (d.ends c && decide (d.ln.length < 255)))) (fun _ K' HK => ?_) (fun h2 e2 => ?_)
  · have f17 : ∀ {K : Value → Prop}, sLd h (ptr k 17) K = K lv := so.ld rfl
    have q := so.b1.seq
    rw [f17, q.len, ev_lt]
    have hl2 : decide ((d.ln.length : Int) < 254) = decide (d.ln.length < 254) := by rw [Bool.eq_iff_iff]; simp; omega
    rw [hl2]
    refine or_ext (y := d.ends c && decide (d.ln.length < 255)) (fun _ K'' HK' => ?_) (fun h3 e3 => HK _ e3)
    refine ends_spec s hc (fun h3 e3 => ?_)
    have f17' : ∀ {K : Value → Prop}, sLd h3 (ptr k 17) K = K lv := (so.ext' e3).ld rfl
    have lq : ∀ {K : Value → Prop}, sLen lv K = K (.int .i64 d.ln.length) := fun {K} => q.len
    simp only [f17', lq, ev_lt, ev_and_p]
    have hl3 : decide ((d.ln.length : Int) < 255) = decide (d.ln.length < 255) := by rw [Bool.eq_iff_iff]; simp; omega
    rw [hl3]
    exact HK' _ e3
  have s2 := so.ext' e2
  rw [ev_if]
  by_cases hp : (d.loc 1 && (decide (d.ln.length < 254) || (d.ends c && decide (d.ln.length < 255)))) = true
  · rw [if_pos hp] at H ⊢
    have f17 : ∀ {K : Value → Prop}, sLd h2 (ptr k 17) K = K lv := s2.ld rfl
    rw [f17]
    refine s2.slit (enc := encI .u8) (sz := 1) (encI_len .u8) [c] rfl ⟨rfl, Nat.le_of_ble_eq_true rfl, rfl⟩ (fun v h3 cv s3 => ?_)
    refine s3.b2.app (enc := encI .u8) (sz := 1) rfl (by decide) (encI_len .u8) (encI_cell .u8) s3.seq (by simp only [List.length_cons, List.length_nil]; omega) (by decide) (fun v2 h4 cv2 s4 => ?_)
    refine s4.b2.st (Nat.le_of_ble_eq_true rfl) cv2 (fun h5 s5 => ?_)
    have s6 : HW.Sep h0 (Blk k (dC { d with ln := d.ln ++ [c] } v2 sv rv ev) 72 :: Sl (encI .u8) 1 v2 (d.ln ++ [c]) :: Sl (encI .u8) 1 v [c] :: Sl encCV 1 sv (rs.map (·.1)) :: rowsU rs :: Sl (encI .u8) 1 rv d.ra :: Sl (encI .u8) 1 ev d.ec :: F) h5 := s5
    refine put_j1 (d := { d with ln := d.ln ++ [c] }) (Dshut e s6.b2.tail) (by unfold D.wt; simp only [List.length_append, List.length_cons, List.length_nil]; omega) H
  · rw [if_neg hp] at H ⊢
    exact bell_spec (s.ext' e2) (by omega) (fun h3 s3 => H h3 s3)
theorem back_spec (s : HW.Sep h0 (Dc k d :: F) h) (hne : d.ln ≠ []) (hb : d.wt ≤ 1073741000) (H : ∀ h', HW.Sep h0 (Dc k d.back :: F) h' → R unit h') : ldisc_Disc_back_c (ptr k 0) h R := by
  apply ldisc_Disc_back_runs
  unfold ldisc_Disc_back_S
  obtain ⟨lv, sv, rv, ev, rs, e, s⟩ := Dopen s
  have hp : 0 < d.ln.length := by cases hd : d.ln with
    | nil => exact (hne hd).elim
    | cons a b => simp
  have wts := hb
  unfold D.wt at wts
  have f17 : ∀ {K : Value → Prop}, sLd h (ptr k 17) K = K lv := s.ld rfl
  have q := s.b1.seq
  have l17 : ∀ {K : Value → Prop}, sLen lv K = K (.int .i64 d.ln.length) := fun {K} => q.len
  simp only [ev_nil, ev_off, Nat.zero_add, f17, l17, ev_sub]
  rw [wrap_i64 (by omega) (by omega), show (d.ln.length : Int) - 1 = ((d.ln.length - 1 : Nat) : Int) by omega]
  have hg : d.ln[d.ln.length - 1]? = some (d.ln.getLastD 0) := by
    rw [List.getLastD_eq_getLast?, List.getLast?_eq_getElem?, List.getElem?_eq_getElem (by omega)]; rfl
  rw [Seq.ld q hg rfl]
  refine q.slK (i := 0) (j := d.ln.length - 1) (by omega) (by omega) rfl ⟨.i64, rfl⟩ ?_
  have s1 := (s.b1.cutr (j := d.ln.length - 1) (by omega)).b1
  have cl : Cell1 (HW.cutP lv 0 (d.ln.length - 1) 1) := s1.b1.cell
  refine s1.st (Nat.le_of_ble_eq_true rfl) cl (fun h1 s2 => ?_)
  have hdl : d.ln.take (d.ln.length - 1) = d.ln.dropLast := by rw [List.dropLast_eq_take]
  rw [hdl] at s2
  have s3 : HW.Sep h0 (Dc k d.cutLast :: F) h1 := Dshut (d := d.cutLast) e s2
  have cw := cut_wt d hne
  unfold D.back at H
  refine local_spec s3 ?_
  rw [ev_not]
  refine or_ext (y := !d.loc 4) (fun _ K' HK => local_spec s3 (by rw [ev_not]; exact HK _ (Ext.refl _))) (fun h2 e2 => ?_)
  have s4 := s3.ext' e2
  rw [ev_if]
  have el : (!d.cutLast.loc 2 || !d.loc 4) = (!d.loc 2 || !d.loc 4) := rfl
  rw [el]
  by_cases hh : (!d.loc 2 || !d.loc 4) = true
  · rw [if_pos hh] at H ⊢; exact H h2 s4
  rw [if_neg hh] at H ⊢
  obtain ⟨lv', sv', rv', ev', b4⟩ := Dhas s4
  have ep : d.cutLast.pict (d.ln.getLastD 0) = d.pict (d.ln.getLastD 0) := rfl
  refine picture_b b4 s4 (fun v h3 cv s5 => ?_)
  rw [s5.seq.len, ep]
  have pl := (pict_len d (d.ln.getLastD 0)).1
  generalize (d.pict (d.ln.getLastD 0)).length = n at H pl
  have s5 := s5.tail
  refine ⟨fun t h' => ∃ i : Nat, i ≤ n ∧ t = .int .i64 i ∧ HW.Sep h0 (Dc k (d.cutLast.emit (backs i)) :: F) h', fun t _ => match t with | .int _ i => (n - i).toNat | _ => 0, ⟨0, Nat.zero_le _, rfl, ?_⟩, ?_⟩
  · have : d.cutLast.emit (backs 0) = d.cutLast := by unfold D.emit backs; simp
    rw [this]; exact s5
  rintro _ h4 ⟨i, hi, rfl, s6⟩
  simp only []
  unfold ldisc_Disc_back_l1
  rw [ev_lt, ev_if]
  by_cases hlt : i < n
  · rw [if_pos (decide_eq_true (by omega))]
    refine emit_spec s6 [8, 32, 8] rfl ⟨rfl, Nat.le_of_ble_eq_true rfl, rfl, Nat.le_of_ble_eq_true rfl, rfl, Nat.le_of_ble_eq_true rfl, rfl⟩ (by rw [emit_wt, backs_len]; omega) (by decide) (fun h5 s7 => ?_)
    rw [ev_add, wrap_i64 (by omega) (by omega)]
    refine ⟨⟨i + 1, hlt, by rw [Int.natCast_add]; rfl, ?_⟩, by simp only; omega⟩
    have : d.cutLast.emit (backs (i + 1)) = (d.cutLast.emit (backs i)).emit [8, 32, 8] := by unfold D.emit; simp only [backs, List.append_assoc]
    rw [this]; exact s7
  · have : i = n := by omega
    subst this
    rw [if_neg (by simp)]
    exact H h4 s6
end
end Go.Proofs.Ytlcklnbgknhhkaa

end

section
/- The line discipline: lines, editing, input. -/
set_option linter.unusedSimpArgs false
set_option linter.unusedVariables false
namespace Go.Proofs.Ytlcklnbgknhhkaa
open Go Go.HW

def D.backW (p : Int → Bool) : Nat → D → D
  | 0, d => d
  | n + 1, d => if (!d.ln.isEmpty && p (d.ln.getLastD 0)) = true then D.backW p n d.back else d
def D.backWhile (d : D) (p : Int → Bool) : D := D.backW p d.ln.length d
theorem back_ln (d : D) : d.back.ln = d.ln.dropLast := by unfold D.back; split <;> rfl
theorem backWhile_eq (d : D) (p : Int → Bool) : d.backWhile p = if (!d.ln.isEmpty && p (d.ln.getLastD 0)) = true then d.back.backWhile p else d := by
  unfold D.backWhile
  rw [back_ln, List.length_dropLast]
  cases hd : d.ln with
  | nil => simp [D.backW]
  | cons a b => rw [List.length_cons, Nat.add_sub_cancel, D.backW, hd]
theorem backW_wt (p : Int → Bool) : ∀ (n : Nat) (d : D), (D.backW p n d).wt ≤ d.wt
  | 0, d => Nat.le_refl _
  | n + 1, d => by
    rw [D.backW]; split
    · rename_i h
      have hne : d.ln ≠ [] := by intro e; rw [e] at h; simp at h
      exact Nat.le_trans (backW_wt p n d.back) (back_wt d hne)
    · omega
theorem backWhile_wt (d : D) (p : Int → Bool) : (d.backWhile p).wt ≤ d.wt := backW_wt p _ d
def blank (c : Int) : Bool := c == 32 || c == 9
def D.signal (d : D) (c : Int) : Int := if (!d.loc 64) = true then 0 else if d.t.is 0 c = true then 1 else if d.t.is 1 c = true then 2 else if d.t.is 2 c = true then 3 else 0
def D.flow (d : D) (c : Int) : D × Bool := if (!d.inn 16) = true then (d, false) else if d.t.is 11 c = true then ({ d with st := true }, true) else if d.t.is 10 c = true then ({ d with st := false }, true) else if d.inn 32 = true then ({ d with st := false }, false) else (d, false)
def D.showAll (d : D) (l : List Int) : D := l.foldl D.show d
def D.reprint (d : D) (c : Int) : D := (if (d.show c).loc 2 = true then (d.show c).emit [10] else d.show c).showAll d.ln
def D.extended (d : D) (c : Int) : D × Bool :=
  if (!d.loc 512) = true then (d, false)
  else if d.t.is 9 c = true then (if d.loc 2 = true then ({ d with nx := true } : D).emit [94, 8] else { d with nx := true }, true)
  else if d.t.is 7 c = true then ((d.backWhile blank).backWhile (fun c => !blank c), true)
  else if d.t.is 8 c = true then (d.reprint c, true)
  else (d, false)
def D.kill (d : D) (c : Int) : D :=
  let d1 := d.backWhile (fun _ => true)
  let d2 := if (!d1.loc 4) = true then d1.show c else d1
  if (d2.loc 8 && d2.loc 2) = true then d2.emit [10] else d2
def D.edit (d : D) (c : Int) : D :=
  if (d.extended c).2 = true then (d.extended c).1
  else if (d.t.is 5 c && decide (0 < d.ln.length) && d.loc 4) = true then d.back
  else if d.t.is 5 c = true then (let d1 := if 0 < d.ln.length then d.back else d; if (!d1.loc 4) = true then d1.show c else d1)
  else if d.t.is 6 c = true then d.kill c
  else if d.t.is 3 c = true then d.ready
  else if d.ends c = true then (if (d.put c).2 = true then (d.put c).1.ready else (d.put c).1)
  else (d.put c).1
def D.sig (d : D) (c : Int) : D := if (!(d.show c).loc 128) = true then { (d.show c).flush with st := false } else d.show c
def D.byte (d : D) (c : Int) : D × Int :=
  if d.nx = true then ((({ d with nx := false } : D).put (if d.inn 1 = true then c % 128 else c)).1, 0)
  else if (d.t.map c).2 = false then (d, 0)
  else if (d.flow (d.t.map c).1).2 = true then ((d.flow (d.t.map c).1).1, 0)
  else if (d.flow (d.t.map c).1).1.signal (d.t.map c).1 ≠ 0 then ((d.flow (d.t.map c).1).1.sig (d.t.map c).1, (d.flow (d.t.map c).1).1.signal (d.t.map c).1)
  else if (d.flow (d.t.map c).1).1.loc 1 = true then ((d.flow (d.t.map c).1).1.edit (d.t.map c).1, 0)
  else (((d.flow (d.t.map c).1).1.put (d.t.map c).1).1, 0)
def D.input (d : D) (c : Int) : D × Int := ({ d with ec := [] } : D).byte c
def D0 (t : Tm) : D := ⟨t, [], [], [], false, false, []⟩
theorem flow_wt (d : D) (c : Int) : (d.flow c).1.wt = d.wt := by unfold D.flow; split <;> (try split) <;> (try split) <;> (try split) <;> rfl
theorem extended_not {d : D} {c : Int} (h : (d.extended c).2 = false) : (d.extended c).1 = d := by
  unfold D.extended at *
  split
  · rfl
  · rename_i h1; rw [if_neg h1] at h
    split
    · rename_i h2; rw [if_pos h2] at h; cases h
    · rename_i h2; rw [if_neg h2] at h
      split
      · rename_i h3; rw [if_pos h3] at h; cases h
      · rename_i h3; rw [if_neg h3] at h
        split
        · rename_i h4; rw [if_pos h4] at h; cases h
        · rfl

section
variable {h0 h : Heap} {F : List HP} {R : Value → Heap → Prop} {k : Nat} {d : D}
theorem rows_len {rs : List (CV × List Int)} {i : Nat} {p : CV × List Int} (s : HW.Sep h0 (rowsU rs :: F) h) (hp : rs[i]? = some p) : Seq (encI .u8) 1 h p.1.1 p.2 := by
  obtain ⟨A, B, e⟩ := List.append_of_mem (List.mem_of_getElem? hp)
  have s2 := s.open_all
  rw [e, List.map_append, List.map_cons, List.append_assoc, List.cons_append] at s2
  exact (s2.perm List.perm_middle).seq
theorem sumL_take (ls : List (List Int)) : ∀ i, i ≤ ls.length → sumL (ls.take i) ≤ sumL ls := by
  intro i _
  have e : ls = ls.take i ++ ls.drop i := (List.take_append_drop i ls).symm
  have : sumL ls = sumL (ls.take i) + sumL (ls.drop i) := by conv => lhs; rw [e]
                                                             unfold sumL; rw [List.map_append, List.sum_append]
  omega
theorem Ready_spec (s : HW.Sep h0 (Dc k d :: F) h) (hb : d.wt ≤ 1073741000) (H : R (.int .i64 d.readyN) h) : ldisc_Disc_Ready_c (ptr k 0) h R := by
  apply ldisc_Disc_Ready_runs
  unfold ldisc_Disc_Ready_S
  obtain ⟨lv, sv, rv, ev, rs, e, s⟩ := Dopen s
  have wts := hb
  unfold D.wt at wts
  have f19 : ∀ {K : Value → Prop}, sLd h (ptr k 19) K = K rv := s.ld rfl
  have f18 : ∀ {K : Value → Prop}, sLd h (ptr k 18) K = K sv := s.ld rfl
  have l19 : ∀ {K : Value → Prop}, sLen rv K = K (.int .i64 d.ra.length) := fun {K} => s.b4.seq.len
  have l18 : ∀ {K : Value → Prop}, sLen sv K = K (.int .i64 d.ls.length) := fun {K} => by rw [s.b2.seq.len, ← e, List.length_map, List.length_map]
  simp only [ev_nil, ev_off, Nat.zero_add, f19, f18, l19, l18]
  refine ⟨fun t h' => ∃ i : Nat, i ≤ d.ls.length ∧ t = (.int .i64 ((d.ra.length + sumL (d.ls.take i) : Nat) : Int), .int .i64 i) ∧ h' = h, fun t _ => match t.2 with | .int _ i => (d.ls.length - i).toNat | _ => 0, ⟨0, Nat.zero_le _, rfl, rfl⟩, ?_⟩
  rintro _ h' ⟨i, hi, rfl, rfl⟩
  simp only []
  unfold ldisc_Disc_Ready_l1
  rw [ev_lt, ev_if]
  have st := sumL_take d.ls i hi
  by_cases hlt : i < d.ls.length
  · rw [if_pos (decide_eq_true (by omega))]
    have hr : i < rs.length := by rw [← e, List.length_map] at hlt; exact hlt
    obtain ⟨p, hp⟩ : ∃ p, rs[i]? = some p := ⟨rs[i], List.getElem?_eq_getElem hr⟩
    have hp1 : (rs.map (·.1))[i]? = some p.1 := by rw [List.getElem?_map, hp]; rfl
    have hp2 : d.ls[i]? = some p.2 := by rw [← e, List.getElem?_map, hp]; rfl
    rw [Seq.ld s.b2.seq hp1 rfl, (rows_len s.b3 hp).len, ev_add]
    have st2 := sumL_take d.ls (i + 1) (by omega)
    have e2 : sumL (d.ls.take (i + 1)) = sumL (d.ls.take i) + p.2.length := by rw [List.take_add_one, hp2]; exact sumL_append _ _
    rw [wrap_i64 (by omega) (by omega), ev_add, wrap_i64 (by omega) (by omega)]
    refine ⟨⟨i + 1, hlt, by rw [e2, Int.natCast_add, Int.natCast_add, Int.natCast_add, Int.natCast_add, Int.add_assoc]; rfl, rfl⟩, by simp only; omega⟩
  · have : i = d.ls.length := by omega
    subst this
    rw [if_neg (by simp), List.take_of_length_le (Nat.le_refl _)]
    exact H
theorem noLine {sv rv ev : Value} {rs : List (CV × List Int)} (e : rs.map (·.2) = d.ls) (s : HW.Sep h0 (Blk k (dC { d with ln := [] } (.slice none 0 0) sv rv ev) 72 :: Sl encCV 1 sv (rs.map (·.1)) :: rowsU rs :: Sl (encI .u8) 1 rv d.ra :: Sl (encI .u8) 1 ev d.ec :: F) h) : HW.Sep h0 (Dc k { d with ln := [] } :: F) h :=
  Dshut (d := { d with ln := [] }) e (sep_nil s).b1
theorem ready_j1 (s : HW.Sep h0 (Dc k d :: F) h) (H : ∀ h', HW.Sep h0 (Dc k { d with ln := [] } :: F) h' → R unit h') : ldisc_Disc_ready_j1 R (ptr k 0) h := by
  unfold ldisc_Disc_ready_j1
  obtain ⟨lv, sv, rv, ev, rs, e, s⟩ := Dopen s
  rw [ev_nil, ev_off, Nat.zero_add]
  refine s.st (Nat.le_of_ble_eq_true rfl) trivial (fun h1 s1 => ?_)
  exact H h1 (noLine e s1.drop1)
theorem ready_spec (s : HW.Sep h0 (Dc k d :: F) h) (hb : d.wt ≤ 1073741000) (H : ∀ h', HW.Sep h0 (Dc k d.ready :: F) h' → R unit h') : ldisc_Disc_ready_c (ptr k 0) h R := by
  apply ldisc_Disc_ready_runs
  unfold ldisc_Disc_ready_S
  obtain ⟨lv, sv, rv, ev, rs, e, so⟩ := Dopen s
  have b : h.has k (dC d lv sv rv ev) 72 := so.has
  have wts := hb
  unfold D.wt at wts
  refine ⟨fun h' => h'.has k (dC d lv sv rv ev) 72, b, ?_⟩
  have cc : ∀ {o : Nat} {u : Value} {K : Value → Prop}, (dC d lv sv rv ev)[o]? = some u → sLdC (fun h' => h'.has k (dC d lv sv rv ev) 72) (ptr k o) K = K u := fun hv => ldc_at (C := fun h' => h'.has k (dC d lv sv rv ev) 72) (h0 := h) b (fun h' e => by rw [e.at, hv])
  refine Ready_spec s hb ⟨b, ?_⟩
  rw [ev_nil, ev_off, Nat.zero_add, cc (o := 17) (u := lv) rfl, so.b1.seq.len, ev_add]
  have hr : d.readyN ≤ 1073741000 := by unfold D.readyN; omega
  rw [wrap_i64 (by omega) (by omega), ev_gt, ev_if]
  unfold D.ready at H
  by_cases hg : d.readyN + d.ln.length > 1024
  · rw [if_pos hg] at H
    rw [if_pos (decide_eq_true (by omega))]
    exact bell_spec s (by omega) (fun h1 s1 => ready_j1 s1 H)
  · rw [if_neg hg] at H
    rw [if_neg (by simp; omega)]
    refine ⟨fun h' => h'.has k (dC d lv sv rv ev) 72, b, ?_⟩
    have f17 : ∀ {K : Value → Prop}, sLd h (ptr k 17) K = K lv := so.ld rfl
    rw [ev_nil, ev_off, Nat.zero_add, cc (o := 18) (u := sv) rfl, ev_nil, ev_off, Nat.zero_add, f17]
    have cl : Cell1 lv := so.b1.cell
    obtain ⟨va, vn, vm, rfl, _⟩ := so.b1.seq
    refine so.slit (enc := encCV) (sz := 1) encCV_len [⟨.slice va vn vm, cl⟩] rfl ⟨rfl, Nat.le_of_ble_eq_true rfl, rfl⟩ (fun v h1 cv s1 => ⟨s1.b1.has, ?_⟩)
    refine s1.b3.app (enc := encCV) (sz := 1) rfl (by decide) encCV_len encCV_cell s1.seq (by rw [← e] at wts; simp only [List.length_map, List.length_cons, List.length_nil] at wts ⊢; omega) (by decide) (fun v2 h2 cv2 s2 => ?_)
    rw [ev_nil, ev_off, Nat.zero_add]
    refine s2.b2.st (Nat.le_of_ble_eq_true rfl) cv2 (fun h3 s3 => ?_)
    unfold ldisc_Disc_ready_j1
    rw [ev_nil, ev_off, Nat.zero_add]
    refine s3.st (Nat.le_of_ble_eq_true rfl) trivial (fun h4 s4 => ?_)
    have s5 : HW.Sep h0 (Blk k (dC { d with ls := d.ls ++ [d.ln], ln := [] } (.slice none 0 0) v2 rv ev) 72 :: Sl encCV 1 v2 (rs.map (·.1) ++ [⟨.slice va vn vm, cl⟩]) :: Sl encCV 1 v [⟨.slice va vn vm, cl⟩] :: Sl (encI .u8) 1 (.slice va vn vm) d.ln :: rowsU rs :: Sl (encI .u8) 1 rv d.ra :: Sl (encI .u8) 1 ev d.ec :: F) h4 := s4
    have s6 := s5.b2.tail.b2.b3
    have s7 := HW.Sep.push s6
    have s8 : HW.Sep h0 (rowsU (rs ++ [(⟨.slice va vn vm, cl⟩, d.ln)]) :: Blk k (dC { d with ls := d.ls ++ [d.ln], ln := [] } (.slice none 0 0) v2 rv ev) 72 :: Sl encCV 1 v2 ((rs ++ [((⟨.slice va vn vm, cl⟩ : CV), d.ln)]).map (·.1)) :: Sl (encI .u8) 1 rv d.ra :: Sl (encI .u8) 1 ev d.ec :: F) h4 := by
      rw [rowsU, List.map_append, List.map_append]; exact s7
    refine H h4 (noLine (d := { d with ls := d.ls ++ [d.ln] }) (rs := rs ++ [(⟨.slice va vn vm, cl⟩, d.ln)]) (by rw [List.map_append, e]; rfl) s8.p2)
theorem flush_spec (s : HW.Sep h0 (Dc k d :: F) h) (H : ∀ h', HW.Sep h0 (Dc k d.flush :: F) h' → R unit h') : ldisc_Disc_Flush_c (ptr k 0) h R := by
  apply ldisc_Disc_Flush_runs
  unfold ldisc_Disc_Flush_S
  obtain ⟨lv, sv, rv, ev, rs, e, s⟩ := Dopen s
  simp only [ev_nil, ev_off, Nat.zero_add]
  refine s.st (Nat.le_of_ble_eq_true rfl) trivial (fun h1 s1 => ?_)
  refine s1.st (Nat.le_of_ble_eq_true rfl) trivial (fun h2 s2 => ?_)
  refine s2.st (Nat.le_of_ble_eq_true rfl) trivial (fun h3 s3 => ?_)
  have s4 : HW.Sep h0 (Blk k (dC d.flush (.slice none 0 0) (.slice none 0 0) (.slice none 0 0) ev) 72 :: Sl (encI .u8) 1 ev d.ec :: F) h3 := s3.drop1.drop1.drop1.drop1
  have s5 := sep_nil (enc := encI .u8) (sz := 1) (sep_nil (enc := encCV) (sz := 1) ((sep_nil (enc := encI .u8) (sz := 1) s4).shut_all (L := [])))
  exact H h3 (Dshut (d := d.flush) (rs := []) rfl s5.b4)
theorem clone_bytes {v : Value} {l : List Int} (q : HW.Rd (encI .u8) 1 h0 F v l) (s : HW.Sep h0 F h) (hl : l.length ≤ 1073741824) (H : ∀ v' h', Cell1 v' → HW.Sep h0 (Sl (encI .u8) 1 v' l :: F) h' → R v' h') : slices_Clone_byte_byte_c v h R := by
  apply slices_Clone_byte_byte_runs
  unfold slices_Clone_byte_byte_S
  have q0 := q.at0 s
  obtain ⟨a, n, m, rfl, hn, hm, hd⟩ := q0
  rw [ev_eqlNilS, ev_if]
  by_cases ha : a.isNone = true
  · rw [if_pos ha]
    have : l = [] := by
      rcases hd with h2 | ⟨b, o, rfl, _⟩
      · exact List.eq_nil_of_length_eq_zero (by omega)
      · cases ha
    subst this
    exact H _ h trivial (sep_nil s)
  · rw [if_neg ha]
    refine s.slit (enc := encI .u8) (sz := 1) (encI_len .u8) [] rfl rfl (fun v1 h1 _ s1 => ?_)
    refine s1.app (enc := encI .u8) (sz := 1) rfl (by decide) (encI_len .u8) (encI_cell .u8) (q.at1 s1) (by simp only [List.length_nil]; omega) (by decide) (fun v' h2 c2 s2 => ?_)
    exact H v' h2 c2 s2
theorem Line_spec (s : HW.Sep h0 (Dc k d :: F) h) (hb : d.wt ≤ 1073741000) (H : ∀ v h', HW.Sep h0 (Sl (encI .u8) 1 v d.ln :: Dc k d :: F) h' → R v h') : ldisc_Disc_Line_c (ptr k 0) h R := by
  apply ldisc_Disc_Line_runs
  unfold ldisc_Disc_Line_S
  obtain ⟨lv, sv, rv, ev, rs, e, s⟩ := Dopen s
  have f17 : ∀ {K : Value → Prop}, sLd h (ptr k 17) K = K lv := s.ld rfl
  rw [ev_nil, ev_off, Nat.zero_add, f17]
  unfold D.wt at hb
  refine clone_bytes (F := Blk k (dC d lv sv rv ev) 72 :: Sl (encI .u8) 1 lv d.ln :: Sl encCV 1 sv (rs.map (·.1)) :: rowsU rs :: Sl (encI .u8) 1 rv d.ra :: Sl (encI .u8) 1 ev d.ec :: F) Rd.own1 s (by omega) (fun v h1 cv s1 => ?_)
  refine H v h1 ?_
  have s2 : HW.Sep h0 (Blk k (dC d lv sv rv ev) 72 :: Sl (encI .u8) 1 lv d.ln :: Sl encCV 1 sv (rs.map (·.1)) :: rowsU rs :: Sl (encI .u8) 1 rv d.ra :: Sl (encI .u8) 1 ev d.ec :: Sl (encI .u8) 1 v d.ln :: F) h1 := s1.perm (List.perm_middle (l₁ := [_, _, _, _, _, _])).symm
  exact (Dshut e s2).b1
theorem isBlank_spec {c : Int} (H : R (.bool (blank c)) h) : ldisc_isBlank_c (.int .u8 c) h R := by
  apply ldisc_isBlank_runs
  unfold ldisc_isBlank_S
  simp only [ev_eq, ev_or_p]
  exact H
/-- How long the line is, as the heap says. -/
def lnAt (k : Nat) (h : Heap) : Nat := match h.at k 17 with | some (.slice _ n _) => n | _ => 0
theorem lnAt_eq (s : HW.Sep h0 (Dc k d :: F) h) : lnAt k h = d.ln.length := by
  obtain ⟨lv, sv, rv, ev, rs, e, s⟩ := Dopen s
  obtain ⟨va, vn, vm, rfl, hl, _⟩ := s.b1.seq
  have b : h.has k (dC d (.slice va vn vm) sv rv ev) 72 := s.has
  unfold lnAt
  have : h.at k 17 = some (.slice va vn vm) := by rw [b.at]; rfl
  rw [this]; exact hl.symm
theorem backWhile_spec {p : Int → Bool} {x : Value} (hx : ∀ (c : Int) (h' : Heap) (K : Value → Heap → Prop), K (.bool (p c)) h' → sCallV Try.prog x #[.int .u8 c] h' K) (s : HW.Sep h0 (Dc k d :: F) h) (hb : d.wt ≤ 1073741000) (H : ∀ h', HW.Sep h0 (Dc k (d.backWhile p) :: F) h' → R unit h') : ldisc_Disc_backWhile_c (ptr k 0) x h R := by
  apply ldisc_Disc_backWhile_runs
  unfold ldisc_Disc_backWhile_S
  refine ⟨fun _ h' => ∃ d' : D, d'.backWhile p = d.backWhile p ∧ d'.wt ≤ 1073741000 ∧ HW.Sep h0 (Dc k d' :: F) h', fun _ h' => lnAt k h', ⟨d, rfl, hb, s⟩, ?_⟩
  rintro _ h1 ⟨d', e', hb', s1⟩
  simp only []
  unfold ldisc_Disc_backWhile_l1
  obtain ⟨lv, sv, rv, ev, b, q, _, _⟩ := lens s1
  have f17 : ∀ {K : Value → Prop}, sLd h1 (ptr k 17) K = K lv := ev_ld_has b rfl
  have l17 : ∀ {K : Value → Prop}, sLen lv K = K (.int .i64 d'.ln.length) := fun {K} => q.len
  have wts := hb'
  unfold D.wt at wts
  simp only [ev_nil, ev_off, Nat.zero_add, f17, l17, ev_gt, ev_sub]
  have hd : decide ((d'.ln.length : Int) > 0) = !d'.ln.isEmpty := by cases d'.ln <;> simp
  rw [hd]
  have be := backWhile_eq d' p
  refine and_ext (y := p (d'.ln.getLastD 0)) (fun hne K' HK => ?_) (fun h2 e2 => ?_)
  · have hp : 0 < d'.ln.length := by cases hl : d'.ln with
      | nil => rw [hl] at hne; simp at hne
      | cons a b => simp
    have hg : d'.ln[d'.ln.length - 1]? = some (d'.ln.getLastD 0) := by
      rw [List.getLastD_eq_getLast?, List.getLast?_eq_getElem?, List.getElem?_eq_getElem (by omega)]; rfl
    rw [wrap_i64 (by omega) (by omega), show (d'.ln.length : Int) - 1 = ((d'.ln.length - 1 : Nat) : Int) by omega, Seq.ld q hg rfl]
    exact hx _ _ _ (HK _ (Ext.refl _))
  have s2 := s1.ext' e2
  rw [ev_if]
  by_cases hc : (!d'.ln.isEmpty && p (d'.ln.getLastD 0)) = true
  · rw [if_pos hc] at be ⊢
    have hne : d'.ln ≠ [] := by intro hl; rw [hl] at hc; simp at hc
    refine back_spec s2 hne (by omega) (fun h3 s3 => ?_)
    have := back_wt d' hne
    refine ⟨⟨d'.back, by rw [← e', be], by omega, s3⟩, ?_⟩
    rw [lnAt_eq s3, lnAt_eq s1, back_ln, List.length_dropLast]
    have hp : 0 < d'.ln.length := by cases hl : d'.ln with
      | nil => exact (hne hl).elim
      | cons a b => simp
    omega
  · rw [if_neg hc] at be ⊢
    rw [be] at e'
    rw [← e'] at H
    exact H h2 s2
theorem signal_spec {c : Int} (s : HW.Sep h0 (Dc k d :: F) h) (hc : 0 ≤ c ∧ c < 256) (H : ∀ h', HW.Sep h0 (Dc k d :: F) h' → R (.int .i64 (d.signal c)) h') : ldisc_Disc_signal_c (ptr k 0) (.int .u8 c) h R := by
  apply ldisc_Disc_signal_runs
  unfold ldisc_Disc_signal_S
  unfold D.signal at H
  refine local_spec s ?_
  rw [ev_not, ev_if]
  by_cases h1 : (!d.loc 64) = true
  · rw [if_pos h1] at H ⊢; exact H h s
  rw [if_neg h1] at H ⊢
  refine dis_spec s hc (fun h2 s2 => ?_)
  rw [ev_if]
  by_cases h2 : d.t.is 0 c = true
  · rw [if_pos h2] at H ⊢; exact H _ s2
  rw [if_neg h2] at H ⊢
  refine dis_spec s2 hc (fun h3 s3 => ?_)
  rw [ev_if]
  by_cases h3 : d.t.is 1 c = true
  · rw [if_pos h3] at H ⊢; exact H _ s3
  rw [if_neg h3] at H ⊢
  refine dis_spec s3 hc (fun h4 s4 => ?_)
  rw [ev_if]
  by_cases h4 : d.t.is 2 c = true
  · rw [if_pos h4] at H ⊢; exact H _ s4
  · rw [if_neg h4] at H ⊢; exact H _ s4
/-- Stopped, or not. -/
theorem st_spec {K : Heap → Prop} {b : Bool} (s : HW.Sep h0 (Dc k d :: F) h) (HK : ∀ h', HW.Sep h0 (Dc k { d with st := b } :: F) h' → K h') : sNil (ptr k 0) fun x => sOff x 20 fun x => sSt h x (.bool b) fun h' => K h' := by
  obtain ⟨lv, sv, rv, ev, rs, e, s⟩ := Dopen s
  rw [ev_nil, ev_off, Nat.zero_add]
  exact s.st (Nat.le_of_ble_eq_true rfl) trivial (fun h1 s1 => HK h1 (Dshut (d := { d with st := b }) e s1))
theorem nx_spec {K : Heap → Prop} {b : Bool} (s : HW.Sep h0 (Dc k d :: F) h) (HK : ∀ h', HW.Sep h0 (Dc k { d with nx := b } :: F) h' → K h') : sNil (ptr k 0) fun x => sOff x 21 fun x => sSt h x (.bool b) fun h' => K h' := by
  obtain ⟨lv, sv, rv, ev, rs, e, s⟩ := Dopen s
  rw [ev_nil, ev_off, Nat.zero_add]
  exact s.st (Nat.le_of_ble_eq_true rfl) trivial (fun h1 s1 => HK h1 (Dshut (d := { d with nx := b }) e s1))
theorem flow_spec {c : Int} (s : HW.Sep h0 (Dc k d :: F) h) (hc : 0 ≤ c ∧ c < 256) (H : ∀ h', HW.Sep h0 (Dc k (d.flow c).1 :: F) h' → R (.bool (d.flow c).2) h') : ldisc_Disc_flow_c (ptr k 0) (.int .u8 c) h R := by
  apply ldisc_Disc_flow_runs
  unfold ldisc_Disc_flow_S
  unfold D.flow at H
  refine in_spec s ?_
  rw [ev_not, ev_if]
  by_cases h1 : (!d.inn 16) = true
  · rw [if_pos h1] at H ⊢; exact H h s
  rw [if_neg h1] at H ⊢
  refine dis_spec s hc (fun h2 s2 => ?_)
  rw [ev_if]
  by_cases h2 : d.t.is 11 c = true
  · rw [if_pos h2] at H ⊢; exact st_spec s2 H
  rw [if_neg h2] at H ⊢
  refine dis_spec s2 hc (fun h3 s3 => ?_)
  rw [ev_if]
  by_cases h3 : d.t.is 10 c = true
  · rw [if_pos h3] at H ⊢; exact st_spec s3 H
  rw [if_neg h3] at H ⊢
  refine in_spec s3 ?_
  rw [ev_if]
  unfold ldisc_Disc_flow_j1
  by_cases h4 : d.inn 32 = true
  · rw [if_pos h4] at H ⊢; exact st_spec s3 H
  · rw [if_neg h4] at H ⊢; exact H _ s3
theorem show_ln (d : D) (c : Int) : (d.show c).ln = d.ln := by unfold D.show; split <;> rfl
theorem showAll_ln (l : List Int) : ∀ d : D, (d.showAll l).ln = d.ln := by
  unfold D.showAll
  induction l with
  | nil => intro d; rfl
  | cons a l ih => intro d; rw [List.foldl_cons, ih, show_ln]
theorem showAll_wt (l : List Int) : ∀ d : D, (d.showAll l).wt ≤ d.wt + 2 * l.length := by
  unfold D.showAll
  induction l with
  | nil => intro d; simp
  | cons a l ih =>
    intro d
    rw [List.foldl_cons, List.length_cons]
    have := ih (d.show a); have := show_wt d a; omega
theorem show_ls (d : D) (c : Int) : (d.show c).ls = d.ls := by unfold D.show; split <;> rfl
theorem show_ra (d : D) (c : Int) : (d.show c).ra = d.ra := by unfold D.show; split <;> rfl
theorem showAll_ls (l : List Int) : ∀ d : D, (d.showAll l).ls = d.ls := by
  unfold D.showAll
  induction l with
  | nil => intro d; rfl
  | cons a l ih => intro d; rw [List.foldl_cons, ih, show_ls]
theorem showAll_ra (l : List Int) : ∀ d : D, (d.showAll l).ra = d.ra := by
  unfold D.showAll
  induction l with
  | nil => intro d; rfl
  | cons a l ih => intro d; rw [List.foldl_cons, ih, show_ra]
theorem ext_j2 (s : HW.Sep h0 (Dc k d :: F) h) (hb : d.wt ≤ 500000000) (H : ∀ h', HW.Sep h0 (Dc k (d.showAll d.ln) :: F) h' → R (.bool true) h') : ldisc_Disc_extended_j2 R (ptr k 0) h := by
  unfold ldisc_Disc_extended_j2
  obtain ⟨lv, sv, rv, ev, rs, e, so⟩ := Dopen s
  have f17 : ∀ {K : Value → Prop}, sLd h (ptr k 17) K = K lv := so.ld rfl
  rw [ev_nil, ev_off, Nat.zero_add, f17, so.b1.seq.len]
  have wts := hb
  unfold D.wt at wts
  have step : ∀ i, i < d.ln.length → d.showAll (d.ln.take (i + 1)) = (d.showAll (d.ln.take i)).show (d.ln.getD i 0) := fun i hi => by
    have hg : d.ln[i]? = some (d.ln.getD i 0) := by rw [List.getD_eq_getElem?_getD, List.getElem?_eq_getElem hi]; rfl
    rw [List.take_add_one, hg]
    unfold D.showAll
    rw [List.foldl_append]; rfl
  refine ⟨fun t h' => ∃ (i : Nat) (ev' : Value), i ≤ d.ln.length ∧ t = .int .i64 i ∧ HW.Sep h0 (Blk k (dC (d.showAll (d.ln.take i)) lv sv rv ev') 72 :: Sl (encI .u8) 1 lv d.ln :: Sl encCV 1 sv (rs.map (·.1)) :: rowsU rs :: Sl (encI .u8) 1 rv d.ra :: Sl (encI .u8) 1 ev' (d.showAll (d.ln.take i)).ec :: F) h', fun t _ => match t with | .int _ i => (d.ln.length - i).toNat | _ => 0, ⟨0, ev, Nat.zero_le _, rfl, so⟩, ?_⟩
  rintro _ h1 ⟨i, ev', hi, rfl, s1⟩
  simp only []
  unfold ldisc_Disc_extended_l3
  rw [ev_lt, ev_if]
  by_cases hlt : i < d.ln.length
  · rw [if_pos (decide_eq_true (by omega))]
    have hg : d.ln[i]? = some (d.ln.getD i 0) := by rw [List.getD_eq_getElem?_getD, List.getElem?_eq_getElem hlt]; rfl
    rw [Seq.ld s1.b1.seq hg rfl]
    have w := showAll_wt (d.ln.take i) d
    rw [List.length_take] at w
    have s1' : HW.Sep h0 (Blk k (dC (d.showAll (d.ln.take i)) lv sv rv ev') 72 :: Sl (encI .u8) 1 lv (d.showAll (d.ln.take i)).ln :: Sl encCV 1 sv (rs.map (·.1)) :: rowsU rs :: Sl (encI .u8) 1 rv (d.showAll (d.ln.take i)).ra :: Sl (encI .u8) 1 ev' (d.showAll (d.ln.take i)).ec :: F) h1 := by rw [showAll_ln, showAll_ra]; exact s1
    refine show_o s1' (by unfold D.wt at w ⊢; omega) (fun ev2 h2 s2 => ?_)
    rw [← step i hlt, showAll_ln, showAll_ra] at s2
    rw [ev_add, wrap_i64 (by omega) (by omega)]
    exact ⟨⟨i + 1, ev2, hlt, by rw [Int.natCast_add]; rfl, s2⟩, by simp only; omega⟩
  · have : i = d.ln.length := by omega
    subst this
    rw [if_neg (by simp)]
    rw [List.take_of_length_le (Nat.le_refl _)] at s1
    unfold ldisc_Disc_extended_j1
    refine H h1 (Dshut (d := d.showAll d.ln) (rs := rs) (lv := lv) (sv := sv) (rv := rv) (ev := ev') (by rw [showAll_ls]; exact e) ?_)
    rw [showAll_ln, showAll_ra]; exact s1
theorem fn86 (c : Int) (h' : Heap) (K : Value → Heap → Prop) (H : K (.bool (blank c)) h') : sCallV Try.prog (.func (.func 86) #[] #[]) #[.int .u8 c] h' K := ⟨86, #[], #[], rfl, isBlank_spec (R := K) H⟩
theorem fn87 (c : Int) (h' : Heap) (K : Value → Heap → Prop) (H : K (.bool (!blank c)) h') : sCallV Try.prog (.func (.func 87) #[] #[]) #[.int .u8 c] h' K := by
  refine ⟨87, #[], #[], rfl, ?_⟩
  show ldisc_Disc_extended_1_c (.int .u8 c) h' K
  apply ldisc_Disc_extended_1_runs
  unfold ldisc_Disc_extended_1_S
  refine isBlank_spec ?_
  rw [ev_not]; exact H
theorem fn82 (c : Int) (h' : Heap) (K : Value → Heap → Prop) (H : K (.bool true) h') : sCallV Try.prog (.func (.func 82) #[] #[]) #[.int .u8 c] h' K := by
  refine ⟨82, #[], #[], rfl, ?_⟩
  show ldisc_Disc_edit_1_c (.int .u8 c) h' K
  apply ldisc_Disc_edit_1_runs
  unfold ldisc_Disc_edit_1_S
  exact H
theorem extended_spec {c : Int} (s : HW.Sep h0 (Dc k d :: F) h) (hc : 0 ≤ c ∧ c < 256) (hb : d.wt ≤ 400000000) (H : ∀ h', HW.Sep h0 (Dc k (d.extended c).1 :: F) h' → R (.bool (d.extended c).2) h') : ldisc_Disc_extended_c (ptr k 0) (.int .u8 c) h R := by
  apply ldisc_Disc_extended_runs
  unfold ldisc_Disc_extended_S
  unfold D.extended at H
  refine local_spec s ?_
  rw [ev_not, ev_if]
  by_cases h1 : (!d.loc 512) = true
  · rw [if_pos h1] at H ⊢; exact H h s
  rw [if_neg h1] at H ⊢
  refine dis_spec s hc (fun h2 s2 => ?_)
  rw [ev_if]
  by_cases h2 : d.t.is 9 c = true
  · rw [if_pos h2] at H ⊢
    refine nx_spec s2 (fun h3 s3 => ?_)
    refine local_spec s3 ?_
    rw [ev_if]
    unfold ldisc_Disc_extended_j1
    have el : ({ d with nx := true } : D).loc 2 = d.loc 2 := rfl
    rw [el]
    by_cases h3 : d.loc 2 = true
    · rw [if_pos h3] at H ⊢
      have ew : ({ d with nx := true } : D).wt = d.wt := rfl
      exact emit_spec s3 [94, 8] rfl ⟨rfl, Nat.le_of_ble_eq_true rfl, rfl, Nat.le_of_ble_eq_true rfl, rfl⟩ (by omega) (by decide) H
    · rw [if_neg h3] at H ⊢; exact H _ s3
  rw [if_neg h2] at H ⊢
  refine dis_spec s2 hc (fun h3 s3 => ?_)
  rw [ev_if]
  by_cases h3 : d.t.is 7 c = true
  · rw [if_pos h3] at H ⊢
    refine backWhile_spec (p := blank) fn86 s3 (by omega) (fun h4 s4 => ?_)
    have w := backWhile_wt d blank
    refine backWhile_spec (p := fun c => !blank c) fn87 s4 (by omega) (fun h5 s5 => ?_)
    unfold ldisc_Disc_extended_j1
    exact H h5 s5
  rw [if_neg h3] at H ⊢
  refine dis_spec s3 hc (fun h4 s4 => ?_)
  rw [ev_if]
  by_cases h4 : d.t.is 8 c = true
  · rw [if_pos h4] at H ⊢
    refine show_spec s4 (by omega) (fun h5 s5 => ?_)
    have w := show_wt d c
    unfold D.reprint at H
    rw [← show_ln d c] at H
    refine local_spec s5 ?_
    rw [ev_if]
    by_cases h5 : (d.show c).loc 2 = true
    · rw [if_pos h5] at H ⊢
      exact emit_spec s5 [10] rfl ⟨rfl, Nat.le_of_ble_eq_true rfl, rfl⟩ (by omega) (by decide) (fun h6 s6 => ext_j2 s6 (by rw [emit_wt]; simp; omega) H)
    · rw [if_neg h5] at H ⊢
      exact ext_j2 s5 (by omega) H
  · rw [if_neg h4] at H ⊢; exact H _ s4
theorem edit_j1 {c : Int} (s : HW.Sep h0 (Dc k d :: F) h) (hb : d.wt ≤ 1073741000) (H : ∀ h', HW.Sep h0 (Dc k (if (!d.loc 4) = true then d.show c else d) :: F) h' → R unit h') : ldisc_Disc_edit_j1 R (ptr k 0) (.int .u8 c) h := by
  unfold ldisc_Disc_edit_j1
  refine local_spec s ?_
  rw [ev_not, ev_if]
  by_cases h1 : (!d.loc 4) = true
  · rw [if_pos h1] at H ⊢; exact show_spec s (by omega) H
  · rw [if_neg h1] at H ⊢; exact H _ s
theorem edit_j2 (s : HW.Sep h0 (Dc k d :: F) h) (hb : d.wt ≤ 1073741000) (H : ∀ h', HW.Sep h0 (Dc k (if (d.loc 8 && d.loc 2) = true then d.emit [10] else d) :: F) h' → R unit h') : ldisc_Disc_edit_j2 R (ptr k 0) h := by
  unfold ldisc_Disc_edit_j2
  refine local_spec s ?_
  refine and_ext (y := d.loc 2) (fun _ K' HK => local_spec s (HK _ (Ext.refl _))) (fun h1 e1 => ?_)
  have s1 := s.ext' e1
  rw [ev_if]
  by_cases h1 : (d.loc 8 && d.loc 2) = true
  · rw [if_pos h1] at H ⊢; exact emit_spec s1 [10] rfl ⟨rfl, Nat.le_of_ble_eq_true rfl, rfl⟩ (by omega) (by decide) H
  · rw [if_neg h1] at H ⊢; exact H _ s1
theorem lnlen {K : Value → Prop} (s : HW.Sep h0 (Dc k d :: F) h) (H : K (.int .i64 d.ln.length)) : sNil (ptr k 0) fun x => sOff x 17 fun x => sLd h x fun x => sLen x K := by
  obtain ⟨lv, sv, rv, ev, b, q, _, _⟩ := lens s
  have f17 : ∀ {K : Value → Prop}, sLd h (ptr k 17) K = K lv := ev_ld_has b rfl
  rw [ev_nil, ev_off, Nat.zero_add, f17, q.len]; exact H
theorem edit_spec {c : Int} (s : HW.Sep h0 (Dc k d :: F) h) (hc : 0 ≤ c ∧ c < 256) (hb : d.wt ≤ 400000000) (H : ∀ h', HW.Sep h0 (Dc k (d.edit c) :: F) h' → R unit h') : ldisc_Disc_edit_c (ptr k 0) (.int .u8 c) h R := by
  apply ldisc_Disc_edit_runs
  unfold ldisc_Disc_edit_S
  refine extended_spec s hc hb (fun h1 s1 => ?_)
  unfold D.edit at H
  rw [ev_if]
  by_cases h1 : (d.extended c).2 = true
  · rw [if_pos h1] at H ⊢; exact H _ s1
  rw [if_neg h1] at H ⊢
  rw [extended_not (by simpa using h1)] at s1
  refine dis_spec s1 hc (fun h2 s2 => ?_)
  refine dis_spec s2 hc (fun h3 s3 => ?_)
  have hpos : decide ((d.ln.length : Int) > 0) = decide (0 < d.ln.length) := by rw [Bool.eq_iff_iff]; simp
  have ka : ∀ {K : Value → Prop} {x : Bool}, K (.bool (x && decide (0 < d.ln.length))) → sAnd (.bool x) (fun k_2 => sNil (ptr k 0) fun x20 => sOff x20 17 fun x21 => sLd h3 x21 fun x22 => sLen x22 fun x23 => sGt x23 (.int .i64 0) fun x24 => k_2 x24) K := by
    intro K x hK
    rw [ev_and]
    cases x with
    | false => exact hK
    | true => rw [if_pos rfl]; exact lnlen s3 (by rw [ev_gt, hpos]; exact hK)
  refine ka ?_
  refine and_ext (y := d.loc 4) (fun _ K' HK => local_spec s3 (HK _ (Ext.refl _))) (fun h4 e4 => ?_)
  have s4 := s3.ext' e4
  rw [ev_if]
  by_cases h2 : (d.t.is 5 c && decide (0 < d.ln.length) && d.loc 4) = true
  · rw [if_pos h2] at H ⊢
    have hne : d.ln ≠ [] := by intro hl; rw [hl] at h2; simp at h2
    exact back_spec s4 hne (by omega) H
  rw [if_neg h2] at H ⊢
  refine dis_spec s4 hc (fun h5 s5 => ?_)
  rw [ev_if]
  by_cases h3 : d.t.is 5 c = true
  · rw [if_pos h3] at H ⊢
    refine lnlen s5 ?_
    rw [ev_gt, hpos, ev_if]
    by_cases h4 : 0 < d.ln.length
    · rw [if_pos h4] at H
      rw [if_pos (decide_eq_true h4)]
      have hne : d.ln ≠ [] := by intro hl; rw [hl] at h4; simp at h4
      have w := back_wt d hne
      exact back_spec s5 hne (by omega) (fun h6 s6 => edit_j1 s6 (by omega) H)
    · rw [if_neg h4] at H
      rw [if_neg (by simpa using h4)]
      exact edit_j1 s5 (by omega) H
  rw [if_neg h3] at H ⊢
  rw [ev_if]
  by_cases h4 : d.t.is 6 c = true
  · rw [if_pos h4] at H ⊢
    unfold D.kill at H
    refine backWhile_spec (p := fun _ => true) fn82 s5 (by omega) (fun h6 s6 => ?_)
    have w := backWhile_wt d (fun _ => true)
    refine local_spec s6 ?_
    rw [ev_not, ev_if]
    simp only at H
    by_cases h5 : (!(d.backWhile fun _ => true).loc 4) = true
    · rw [if_pos h5] at H ⊢
      have w2 := show_wt (d.backWhile fun _ => true) c
      exact show_spec s6 (by omega) (fun h7 s7 => edit_j2 s7 (by omega) H)
    · rw [if_neg h5] at H ⊢
      exact edit_j2 s6 (by omega) H
  rw [if_neg h4] at H ⊢
  refine dis_spec s5 hc (fun h6 s6 => ?_)
  rw [ev_if]
  by_cases h5 : d.t.is 3 c = true
  · rw [if_pos h5] at H ⊢
    exact ready_spec s6 (by omega) H
  rw [if_neg h5] at H ⊢
  refine ends_spec s6 hc (fun h7 e7 => ?_)
  have s7 := s6.ext' e7
  rw [ev_if]
  have w := put_wt d c
  by_cases h6 : d.ends c = true
  · rw [if_pos h6] at H ⊢
    refine put_spec s7 hc (by omega) (fun h8 s8 => ?_)
    rw [ev_if]
    by_cases h7 : (d.put c).2 = true
    · rw [if_pos h7] at H ⊢; exact ready_spec s8 (by omega) H
    · rw [if_neg h7] at H ⊢; exact H _ s8
  · rw [if_neg h6] at H ⊢
    exact put_spec s7 hc (by omega) H
theorem flush_wt (d : D) : d.flush.wt ≤ d.wt := by unfold D.flush D.wt sumL; simp; omega
theorem byte_spec {c : Int} (s : HW.Sep h0 (Dc k d :: F) h) (hc : 0 ≤ c ∧ c < 256) (hb : d.wt ≤ 300000000) (H : ∀ h', HW.Sep h0 (Dc k (d.byte c).1 :: F) h' → R (.int .i64 (d.byte c).2) h') : ldisc_Disc_byte_c (ptr k 0) (.int .u8 c) h R := by
  apply ldisc_Disc_byte_runs
  unfold ldisc_Disc_byte_S
  unfold D.byte at H
  obtain ⟨lv, sv, rv, ev, b⟩ := Dhas s
  have f21 : ∀ {K : Value → Prop}, sLd h (ptr k 21) K = K (.bool d.nx) := ev_ld_has b rfl
  rw [ev_nil, ev_off, Nat.zero_add, f21, ev_if]
  by_cases h1 : d.nx = true
  · rw [if_pos h1] at H ⊢
    refine nx_spec s (fun h2 s2 => ?_)
    refine in_spec s2 ?_
    rw [ev_if]
    have el : ({ d with nx := false } : D).inn 1 = d.inn 1 := rfl
    have ew : ({ d with nx := false } : D).wt = d.wt := rfl
    rw [el]
    unfold ldisc_Disc_byte_j1
    by_cases h2 : d.inn 1 = true
    · rw [if_pos h2] at H ⊢
      rw [ev_bits, and_127 c hc.1 hc.2]
      exact put_spec s2 (by omega) (by omega) H
    · rw [if_neg h2] at H ⊢
      exact put_spec s2 hc (by omega) H
  rw [if_neg h1] at H ⊢
  rw [ev_nil, ev_off, Nat.zero_add, dt_ld b]
  refine map_spec hc (fun h2 e2 => ?_)
  have s2 := s.ext' e2
  have mr := map_rng d.t hc
  rw [tup0, tup1]
  generalize d.t.map c = m at H mr
  obtain ⟨v, told⟩ := m
  simp only at H mr ⊢
  rw [ev_not, ev_orh]
  cases told with
  | false =>
    rw [if_pos rfl] at H
    rw [if_pos (by decide)]
    show sIf (.bool true) _ _
    rw [ev_if, if_pos rfl]
    exact H _ s2
  | true =>
    rw [if_neg (by decide)] at H
    rw [if_neg (by decide)]
    have fw := flow_wt d v
    refine flow_spec s2 mr (fun h3 s3 => ?_)
    show sIf (.bool (d.flow v).2) _ _
    rw [ev_if]
    generalize d.flow v = fd at H s3 fw
    obtain ⟨d1, stop⟩ := fd
    simp only at H s3 fw ⊢
    cases stop with
    | true =>
      rw [if_pos rfl] at H
      rw [if_pos rfl]
      exact H _ s3
    | false =>
      rw [if_neg (by decide)] at H
      rw [if_neg (by decide)]
      refine signal_spec s3 mr (fun h4 s4 => ?_)
      rw [ev_ne, ev_if]
      by_cases hs : d1.signal v ≠ 0
      · rw [if_pos hs] at H
        rw [if_pos (by simpa using hs)]
        unfold ldisc_Disc_byte_j2
        have w := show_wt d1 v
        refine show_spec s4 (by omega) (fun h5 s5 => ?_)
        refine local_spec s5 ?_
        rw [ev_not, ev_if]
        unfold D.sig at H
        by_cases h7 : (!(d1.show v).loc 128) = true
        · rw [if_pos h7] at H ⊢
          refine flush_spec s5 (fun h6 s6 => ?_)
          exact st_spec s6 H
        · rw [if_neg h7] at H ⊢
          exact H _ s5
      · rw [if_neg hs] at H
        rw [if_neg (by simpa using hs)]
        refine local_spec s4 ?_
        rw [ev_if]
        unfold ldisc_Disc_byte_j3
        by_cases h8 : d1.loc 1 = true
        · rw [if_pos h8] at H ⊢
          exact edit_spec s4 mr (by omega) H
        · rw [if_neg h8] at H ⊢
          exact put_spec s4 mr (by omega) H
/-- What is shown is handed out. -/
theorem input_spec {c : Int} (s : HW.Sep h0 (Dc k d :: F) h) (hc : 0 ≤ c ∧ c < 256) (hb : d.wt ≤ 300000000) (H : ∀ v h', HW.Sep h0 (Dc k (d.input c).1 :: F) h' → Seq (encI .u8) 1 h' v (d.input c).1.ec → R (.tuple #[v, .int .i64 (d.input c).2]) h') : ldisc_Disc_Input_c (ptr k 0) (.int .u8 c) h R := by
  apply ldisc_Disc_Input_runs
  unfold ldisc_Disc_Input_S
  obtain ⟨lv, sv, rv, ev, rs, e, so⟩ := Dopen s
  rw [ev_nil, ev_off, Nat.zero_add]
  refine so.st (Nat.le_of_ble_eq_true rfl) trivial (fun h1 s1 => ?_)
  have s2 : HW.Sep h0 (Dc k { d with ec := [] } :: F) h1 := by
    have s1' : HW.Sep h0 (Blk k (dC { d with ec := [] } lv sv rv (.slice none 0 0)) 72 :: Sl (encI .u8) 1 lv d.ln :: Sl encCV 1 sv (rs.map (·.1)) :: rowsU rs :: Sl (encI .u8) 1 rv d.ra :: Sl (encI .u8) 1 ev d.ec :: F) h1 := s1
    exact Dshut (d := { d with ec := [] }) e (p5 (sep_nil s1'.b5.tail))
  refine byte_spec s2 hc (by unfold D.wt at hb ⊢; simp only [List.length_nil]; omega) (fun h2 s3 => ?_)
  obtain ⟨lv', sv', rv', ev', b, _, _, q⟩ := lens s3
  have f22 : ∀ {K : Value → Prop}, sLd h2 (ptr k 22) K = K ev' := ev_ld_has b rfl
  rw [ev_nil, ev_off, Nat.zero_add, f22]
  exact H ev' h2 s3 q
/-- What is shown lies in the discipline. -/
theorem input_o {c : Int} (s : HW.Sep h0 (Dc k d :: F) h) (hc : 0 ≤ c ∧ c < 256) (hb : d.wt ≤ 300000000) (H : ∀ lv sv rv ev, ∀ (rs : List (CV × List Int)) h', rs.map (·.2) = (d.input c).1.ls → HW.Sep h0 (Blk k (dC (d.input c).1 lv sv rv ev) 72 :: Sl (encI .u8) 1 lv (d.input c).1.ln :: Sl encCV 1 sv (rs.map (·.1)) :: rowsU rs :: Sl (encI .u8) 1 rv (d.input c).1.ra :: Sl (encI .u8) 1 ev (d.input c).1.ec :: F) h' → R (.tuple #[ev, .int .i64 (d.input c).2]) h') : ldisc_Disc_Input_c (ptr k 0) (.int .u8 c) h R := by
  apply ldisc_Disc_Input_runs
  unfold ldisc_Disc_Input_S
  obtain ⟨lv, sv, rv, ev, rs, e, so⟩ := Dopen s
  rw [ev_nil, ev_off, Nat.zero_add]
  refine so.st (Nat.le_of_ble_eq_true rfl) trivial (fun h1 s1 => ?_)
  have s2 : HW.Sep h0 (Dc k { d with ec := [] } :: F) h1 := by
    have s1' : HW.Sep h0 (Blk k (dC { d with ec := [] } lv sv rv (.slice none 0 0)) 72 :: Sl (encI .u8) 1 lv d.ln :: Sl encCV 1 sv (rs.map (·.1)) :: rowsU rs :: Sl (encI .u8) 1 rv d.ra :: Sl (encI .u8) 1 ev d.ec :: F) h1 := s1
    exact Dshut (d := { d with ec := [] }) e (p5 (sep_nil s1'.b5.tail))
  refine byte_spec s2 hc (by unfold D.wt at hb ⊢; simp only [List.length_nil]; omega) (fun h2 s3 => ?_)
  obtain ⟨lv', sv', rv', ev', rs', e', so'⟩ := Dopen s3
  have f22 : ∀ {K : Value → Prop}, sLd h2 (ptr k 22) K = K ev' := so'.ld rfl
  rw [ev_nil, ev_off, Nat.zero_add, f22]
  exact H lv' sv' rv' ev' rs' h2 e' so'
theorem new_spec {t : Tm} (s : HW.Sep h0 F h) (H0 : t.right = false → ∀ h', HW.Sep h0 F h' → R (.pointer none) h') (H1 : t.right = true → ∀ k h', HW.Sep h0 (Dc k (D0 t) :: F) h' → R (ptr k 0) h') : ldisc_New_c t.v h R := by
  apply ldisc_New_runs
  unfold ldisc_New_S
  refine s.box (c := t.c) rfl (fun k1 h1 s1 => ?_)
  rw [s1.ldall (n := 17) rfl]
  refine tright_spec (fun h2 e2 => ?_)
  have s2 := s1.ext' e2
  rw [ev_not, ev_if]
  cases ht : t.right with
  | false => rw [if_pos (by decide)]; exact H0 ht h2 s2.tail
  | true =>
    rw [if_neg (by decide), s2.ldall (n := 17) rfl]
    refine build_intro (cs := dC (D0 t) (.slice none 0 0) (.slice none 0 0) (.slice none 0 0) (.slice none 0 0)) (fill_k (by kernel_rfl)) ?_
    refine s2.tail.box (c := dC (D0 t) (.slice none 0 0) (.slice none 0 0) (.slice none 0 0) (.slice none 0 0)) rfl (fun k h3 s3 => ?_)
    have s4 := sep_nil (enc := encI .u8) (sz := 1) (sep_nil (enc := encCV) (sz := 1) ((sep_nil (enc := encI .u8) (sz := 1) (sep_nil (enc := encI .u8) (sz := 1) s3)).shut_all (L := [])))
    exact H1 ht k h3 (Dshut (d := D0 t) (rs := []) rfl s4.b5)
end
end Go.Proofs.Ytlcklnbgknhhkaa

end

section
/- The line discipline: what is read. -/
set_option linter.unusedSimpArgs false
set_option linter.unusedVariables false
namespace Go.Proofs.Ytlcklnbgknhhkaa
open Go Go.HW

def D.read (d : D) (n : Int) : D × List Int × Bool :=
  if n < 1 then (d, [], false)
  else if (!d.loc 1) = true then ({ d with ra := d.ra.drop (min n.toNat d.ra.length) }, d.ra.take (min n.toNat d.ra.length), false)
  else match d.ls with
    | [] => (d, [], false)
    | l :: ls => ({ d with ls := if min n.toNat l.length = l.length then ls else l.drop (min n.toNat l.length) :: ls }, l.take (min n.toNat l.length), l.isEmpty)

section
variable {h0 h : Heap} {F : List HP} {R : Value → Heap → Prop} {k : Nat} {d : D}
theorem min_cast {n : Int} {m : Nat} (hn : 1 ≤ n) : (if (m : Int) < n then (m : Int) else n) = ((min n.toNat m : Nat) : Int) := by split <;> omega
theorem read_spec {n : Int} (s : HW.Sep h0 (Dc k d :: F) h) (hb : d.wt ≤ 300000000) (H : ∀ v h', HW.Sep h0 (Sl (encI .u8) 1 v (d.read n).2.1 :: Dc k (d.read n).1 :: F) h' → R (.tuple #[v, .bool (d.read n).2.2]) h') : ldisc_Disc_Read_c (ptr k 0) (.int .i64 n) h R := by
  apply ldisc_Disc_Read_runs
  unfold ldisc_Disc_Read_S
  unfold D.read at H
  rw [ev_lt, ev_if]
  by_cases h1 : n < 1
  · rw [if_pos h1] at H
    rw [if_pos (decide_eq_true h1)]
    exact H _ h (sep_nil s)
  rw [if_neg h1] at H
  rw [if_neg (by simpa using h1)]
  refine local_spec s ?_
  rw [ev_not, ev_if]
  obtain ⟨lv, sv, rv, ev, rs, e, so⟩ := Dopen s
  have b : h.has k (dC d lv sv rv ev) 72 := so.has
  have cc : ∀ {o : Nat} {u : Value} {K : Value → Prop}, (dC d lv sv rv ev)[o]? = some u → sLdC (fun h' => h'.has k (dC d lv sv rv ev) 72) (ptr k o) K = K u := fun hv => ldc_at (C := fun h' => h'.has k (dC d lv sv rv ev) 72) (h0 := h) b (fun h' e => by rw [e.at, hv])
  have wts := hb
  unfold D.wt at wts
  by_cases h2 : (!d.loc 1) = true
  · rw [if_pos h2] at H ⊢
    have f19 : ∀ {K : Value → Prop}, sLd h (ptr k 19) K = K rv := so.ld rfl
    have q := so.b4.seq
    rw [ev_nil, ev_off, Nat.zero_add, f19, q.len, ev_min, min_cast (by omega)]
    generalize hm : min n.toNat d.ra.length = m at H
    have hml : m ≤ d.ra.length := by omega
    refine ⟨fun h' => h'.has k (dC d lv sv rv ev) 72, b, ?_⟩
    rw [ev_nil, ev_off, Nat.zero_add, f19]
    refine q.slK (i := 0) (j := m) (by omega) hml rfl ⟨.i64, rfl⟩ ?_
    have rd : HW.Rd (encI .u8) 1 h0 (Sl (encI .u8) 1 rv d.ra :: Blk k (dC d lv sv rv ev) 72 :: Sl (encI .u8) 1 lv d.ln :: Sl encCV 1 sv (rs.map (·.1)) :: rowsU rs :: Sl (encI .u8) 1 ev d.ec :: F) rv d.ra := Rd.own0
    have rd2 := rd.cut (i := 0) (j := m) (by omega) hml
    rw [List.drop_zero] at rd2
    refine clone_bytes rd2 so.b4 (by rw [List.length_take]; omega) (fun v h3 cv s3 => ⟨s3.b2.has, ?_⟩)
    rw [ev_nil, ev_off, Nat.zero_add, cc (o := 19) (u := rv) rfl]
    refine s3.b1.seq.slK (i := m) (j := d.ra.length) hml (Nat.le_refl _) ⟨.i64, rfl⟩ rfl ?_
    rw [ev_nil, ev_off, Nat.zero_add]
    have s4 := s3.b1.cutl (i := m) hml
    have c4 : Cell1 (HW.cutP rv m d.ra.length 1) := s4.cell
    refine s4.b2.st (Nat.le_of_ble_eq_true rfl) c4 (fun h4 s5 => ?_)
    have s6 : HW.Sep h0 (Blk k (dC { d with ra := d.ra.drop m } lv sv (HW.cutP rv m d.ra.length 1) ev) 72 :: Sl (encI .u8) 1 (HW.cutP rv m d.ra.length 1) (d.ra.drop m) :: Sl (encI .u8) 1 v (d.ra.take m) :: Sl (encI .u8) 1 lv d.ln :: Sl encCV 1 sv (rs.map (·.1)) :: rowsU rs :: Sl (encI .u8) 1 ev d.ec :: F) h4 := s5
    refine H v h4 ?_
    have s7 : HW.Sep h0 (Blk k (dC { d with ra := d.ra.drop m } lv sv (HW.cutP rv m d.ra.length 1) ev) 72 :: Sl (encI .u8) 1 lv d.ln :: Sl encCV 1 sv (rs.map (·.1)) :: rowsU rs :: Sl (encI .u8) 1 (HW.cutP rv m d.ra.length 1) (d.ra.drop m) :: Sl (encI .u8) 1 ev d.ec :: Sl (encI .u8) 1 v (d.ra.take m) :: F) h4 := by
      have a1 := s6.b2
      have a2 : HW.Sep h0 (Sl (encI .u8) 1 (HW.cutP rv m d.ra.length 1) (d.ra.drop m) :: Blk k (dC { d with ra := d.ra.drop m } lv sv (HW.cutP rv m d.ra.length 1) ev) 72 :: Sl (encI .u8) 1 lv d.ln :: Sl encCV 1 sv (rs.map (·.1)) :: rowsU rs :: Sl (encI .u8) 1 ev d.ec :: Sl (encI .u8) 1 v (d.ra.take m) :: F) h4 := (a1.perm (List.perm_middle (l₁ := [_, _, _, _, _, _])).symm).b1
      exact a2.p4
    have s8 := Dshut (d := { d with ra := d.ra.drop m }) e s7
    exact s8.b1
  rw [if_neg h2] at H ⊢
  have f18 : ∀ {K : Value → Prop}, sLd h (ptr k 18) K = K sv := so.ld rfl
  have q18 := so.b2.seq
  rw [ev_nil, ev_off, Nat.zero_add, f18, q18.len, List.length_map, ev_eq, ev_if]
  cases hl : d.ls with
  | nil =>
    rw [hl] at H e
    have hr : rs = [] := List.map_eq_nil_iff.1 e
    subst hr
    rw [if_pos (by simp)]
    exact H _ h (sep_nil s)
  | cons l ls =>
    rw [hl] at H e
    simp only at H
    obtain ⟨p, rs', rfl⟩ : ∃ p rs', rs = p :: rs' := by cases rs with
      | nil => cases e
      | cons p r => exact ⟨p, r, rfl⟩
    rw [List.map_cons] at e
    have e1 : p.2 = l := (List.cons.inj e).1
    have e2 : rs'.map (·.2) = ls := (List.cons.inj e).2
    subst e1
    rw [if_neg (by simp; omega), ev_nil, ev_off, Nat.zero_add, f18]
    have r0 : ∀ {K : Value → Prop}, sIxS sv (.int .i64 0) 1 (fun q => sLd h q K) = K p.1.1 := fun {K} => Seq.ld q18 (j := 0) (x := p.1) rfl rfl .i64
    rw [r0]
    have s1 : HW.Sep h0 (Sl (encI .u8) 1 p.1.1 p.2 :: rowsU rs' :: Blk k (dC d lv sv rv ev) 72 :: Sl (encI .u8) 1 lv d.ln :: Sl encCV 1 sv ((p :: rs').map (·.1)) :: Sl (encI .u8) 1 rv d.ra :: Sl (encI .u8) 1 ev d.ec :: F) h := Sep.pop so.b3
    have q0 := s1.seq
    rw [q0.len, ev_min, min_cast (by omega)]
    generalize hm : min n.toNat p.2.length = m at H
    have hml : m ≤ p.2.length := by omega
    have hpl : p.2.length ≤ 300000000 := by
      have := hb
      unfold D.wt sumL at this
      rw [hl] at this
      simp only [List.map_cons, List.sum_cons] at this
      omega
    refine ⟨fun h' => h'.has k (dC d lv sv rv ev) 72, b, ?_⟩
    rw [ev_nil, ev_off, Nat.zero_add, cc (o := 18) (u := sv) rfl]
    refine q0.slK (i := 0) (j := m) (by omega) hml rfl ⟨.i64, rfl⟩ ?_
    have rd : HW.Rd (encI .u8) 1 h0 (Sl (encI .u8) 1 p.1.1 p.2 :: rowsU rs' :: Blk k (dC d lv sv rv ev) 72 :: Sl (encI .u8) 1 lv d.ln :: Sl encCV 1 sv ((p :: rs').map (·.1)) :: Sl (encI .u8) 1 rv d.ra :: Sl (encI .u8) 1 ev d.ec :: F) p.1.1 p.2 := Rd.own0
    have rd2 := rd.cut (i := 0) (j := m) (by omega) hml
    rw [List.drop_zero] at rd2
    refine clone_bytes rd2 s1 (by rw [List.length_take]; omega) (fun v h3 cv s3 => ⟨s3.b3.has, ?_⟩)
    refine s3.b1.seq.slK (i := m) (j := p.2.length) hml (Nat.le_refl _) ⟨.i64, rfl⟩ rfl ?_
    have s4 := s3.b1.cutl (i := m) hml
    have c4 : Cell1 (HW.cutP p.1.1 m p.2.length 1) := s4.cell
    have s5 := s4.b5
    have ix : ∀ {K : Value → Prop}, sIxS sv (.int .i64 0) 1 K = K (eltP sv 0 1) := fun {K} => s5.seq.elt (j := 0) (by simp) .i64
    rw [ix]
    refine s5.set1 encCV_len (j := 0) (by simp) ⟨HW.cutP p.1.1 m p.2.length 1, c4⟩ rfl c4 (fun h4 s6 => ?_)
    have s6 : HW.Sep h0 (Sl encCV 1 sv (⟨HW.cutP p.1.1 m p.2.length 1, c4⟩ :: rs'.map (·.1)) :: Sl (encI .u8) 1 (HW.cutP p.1.1 m p.2.length 1) (p.2.drop m) :: Sl (encI .u8) 1 v (p.2.take m) :: rowsU rs' :: Blk k (dC d lv sv rv ev) 72 :: Sl (encI .u8) 1 lv d.ln :: Sl (encI .u8) 1 rv d.ra :: Sl (encI .u8) 1 ev d.ec :: F) h4 := s6
    have lq : ∀ {K : Value → Prop}, sLen p.1.1 K = K (.int .i64 p.2.length) := fun {K} => q0.len
    unfold ldisc_Disc_Read_j1
    simp only [lq, ev_eq, ev_if]
    have he : (((p.2.length : Nat) : Int) == 0) = p.2.isEmpty := by cases p.2 <;> simp; omega
    rw [he]
    by_cases hmm : m = p.2.length
    · rw [if_pos hmm] at H
      rw [if_pos (by simp; omega)]
      have g18 : ∀ {K : Value → Prop}, sLd h4 (ptr k 18) K = K sv := s6.b4.ld rfl
      rw [ev_nil, ev_off, Nat.zero_add, g18]
      have q6 := s6.seq
      refine q6.slK (i := 1) (j := (rs'.map (·.1)).length + 1) (by omega) (by simp) ⟨.i64, rfl⟩ (by show bnd none _ _; simp [bnd]) ?_
      have s7 := s6.cutl (i := 1) (by simp)
      have c7 : Cell1 (HW.cutP sv 1 ((rs'.map (·.1)).length + 1) 1) := s7.cell
      rw [ev_nil, ev_off, Nat.zero_add]
      have s7 : HW.Sep h0 (Sl encCV 1 (HW.cutP sv 1 ((rs'.map (·.1)).length + 1) 1) (rs'.map (·.1)) :: Sl (encI .u8) 1 (HW.cutP p.1.1 m p.2.length 1) (p.2.drop m) :: Sl (encI .u8) 1 v (p.2.take m) :: rowsU rs' :: Blk k (dC d lv sv rv ev) 72 :: Sl (encI .u8) 1 lv d.ln :: Sl (encI .u8) 1 rv d.ra :: Sl (encI .u8) 1 ev d.ec :: F) h4 := s7
      refine s7.b4.st (Nat.le_of_ble_eq_true rfl) c7 (fun h5 s8 => ?_)
      have s9 : HW.Sep h0 (Blk k (dC { d with ls := ls } lv (HW.cutP sv 1 ((rs'.map (·.1)).length + 1) 1) rv ev) 72 :: Sl encCV 1 (HW.cutP sv 1 ((rs'.map (·.1)).length + 1) 1) (rs'.map (·.1)) :: Sl (encI .u8) 1 (HW.cutP p.1.1 m p.2.length 1) (p.2.drop m) :: Sl (encI .u8) 1 v (p.2.take m) :: rowsU rs' :: Sl (encI .u8) 1 lv d.ln :: Sl (encI .u8) 1 rv d.ra :: Sl (encI .u8) 1 ev d.ec :: F) h5 := s8
      refine H v h5 ?_
      have a3 := (selF (L := [_, _, _, _, _, _, _, _]) s9 [2, 0, 5, 1, 4, 6, 7, 3] rfl (by decide)).tail
      exact (Dshut (d := { d with ls := ls }) e2 a3).b1
    · rw [if_neg hmm] at H
      rw [if_neg (by simp; omega)]
      refine H v h4 ?_
      have a1 := selF (L := [_, _, _, _, _, _, _, _]) s6 [1, 3, 4, 5, 0, 6, 7, 2] rfl (by decide)
      have a2 : HW.Sep h0 (rowsU ((⟨HW.cutP p.1.1 m p.2.length 1, c4⟩, p.2.drop m) :: rs') :: Blk k (dC { d with ls := p.2.drop m :: ls } lv sv rv ev) 72 :: Sl (encI .u8) 1 lv d.ln :: Sl encCV 1 sv ((((⟨HW.cutP p.1.1 m p.2.length 1, c4⟩ : CV), p.2.drop m) :: rs').map (·.1)) :: Sl (encI .u8) 1 rv d.ra :: Sl (encI .u8) 1 ev d.ec :: Sl (encI .u8) 1 v (p.2.take m) :: F) h4 := Sep.unpop a1
      have a3 := selF (L := [_, _, _, _, _, _, _]) a2 [1, 2, 3, 0, 4, 5, 6] rfl (by decide)
      exact (Dshut (d := { d with ls := p.2.drop m :: ls }) (rs := (⟨HW.cutP p.1.1 m p.2.length 1, c4⟩, p.2.drop m) :: rs') (by rw [List.map_cons, e2]) a3).b1
end
end Go.Proofs.Ytlcklnbgknhhkaa

end

section
/- The line discipline: how much it has; bytes one by one; the example. -/
set_option linter.unusedSimpArgs false
set_option linter.unusedVariables false
namespace Go.Proofs.Ytlcklnbgknhhkaa
open Go Go.HW

section
variable {h0 h : Heap} {F : List HP} {R : Value → Heap → Prop}
theorem same_spec {k : IntKind} {v w : Value} {l m : List Int} (hcap : l.length < 4611686018427387904) (hv : Ints k h v l) (hw : Ints k h w m) (H : R (.bool (decide (l = m))) h) : betonyref01_Same_c v w h R := by
  apply betonyref01_Same_runs
  unfold betonyref01_Same_S
  rw [hv.len, hw.len]
  simp only [ev_ne, ev_if, bne_iff_ne, ne_eq]
  by_cases hl : l.length = m.length
  · rw [if_neg (by simp [hl])]
    refine ⟨fun s h' => ∃ i : Nat, s = .int .i64 i ∧ i ≤ l.length ∧ h' = h ∧ l.take i = m.take i, fun s _ => match s with | .int _ i => (l.length - i).toNat | _ => 0, ⟨0, rfl, by omega, rfl, rfl⟩, ?_⟩
    rintro _ h' ⟨i, rfl, hi, e, ht⟩
    unfold betonyref01_Same_l1
    rw [hv.len]
    simp only [ev_lt, ev_if, decide_eq_true_eq]
    rw [e]
    by_cases hlt : i < l.length
    · rw [if_pos (by omega)]
      have g1 : l[i]? = some l[i] := by simp
      have g2 : m[i]? = some (m[i]'(by omega)) := by simp
      generalize l[i] = r at g1
      generalize m[i]'(by omega) = q at g2
      rw [Seq.ld hv g1 rfl, Seq.ld hw g2 rfl]
      simp only [ev_ne, ev_if, bne_iff_ne, ne_eq]
      by_cases hrq : r = q
      · subst hrq
        have wi : IntKind.i64.wrap ((i : Int) + 1) = ((i + 1 : Nat) : Int) := by rw [wrap_i64 (by omega) (by omega)]; rfl
        rw [if_neg (by simp), ev_add, wi]
        exact ⟨⟨i + 1, rfl, by omega, by trivial, by rw [List.take_add_one, List.take_add_one, g1, g2, ht]⟩, by simp only []; omega⟩
      · have : l ≠ m := fun e => by subst e; rw [g1] at g2; cases g2; exact hrq rfl
        rw [if_pos hrq]
        simpa [this] using H
    · rw [if_neg (by omega)]
      have : l = m := by
        rw [List.take_of_length_le (by omega), List.take_of_length_le (by omega)] at ht
        exact ht
      simpa [this] using H
  · rw [if_pos (by omega)]
    have : l ≠ m := fun e => hl (by rw [e])
    simpa [this] using H

end
def D.bw (d : D) : Nat := d.ln.length * 8 + d.ra.length + d.ls.length + sumL d.ls
theorem wt_eq (d : D) : d.wt = d.bw + d.ec.length := by unfold D.wt D.bw; omega
theorem emit_bw (d : D) (l : List Int) : (d.emit l).bw = d.bw ∧ (d.emit l).ec.length = d.ec.length + l.length := ⟨rfl, by unfold D.emit; simp⟩
theorem show_bw (d : D) (c : Int) : (d.show c).bw = d.bw ∧ (d.show c).ec.length ≤ d.ec.length + 2 := by
  unfold D.show; split
  · have := emit_bw d (d.pict c); have := (pict_len d c).1; omega
  · omega
theorem bell_bw (d : D) : d.bell.bw = d.bw ∧ d.bell.ec.length ≤ d.ec.length + 1 := by
  unfold D.bell; split
  · have := emit_bw d [7]; simp at this; omega
  · omega
theorem put1_bw (d : D) (c : Int) : (d.put1 c).bw = d.bw ∧ (d.put1 c).ec.length ≤ d.ec.length + 3 := by
  unfold D.put1; split
  · have h1 := emit_bw d [c]; have h2 := show_bw (d.emit [c]) c; simp at h1; omega
  · have := show_bw d c; omega
theorem put_bw (d : D) (c : Int) : (d.put c).1.bw ≤ d.bw + 8 ∧ (d.put c).1.ec.length ≤ d.ec.length + 3 := by
  unfold D.put
  split
  · have h1 := put1_bw { d with ra := d.ra ++ [c] } c
    have e : ({ d with ra := d.ra ++ [c] } : D).bw = d.bw + 1 := by unfold D.bw; simp only [List.length_append, List.length_cons, List.length_nil]; omega
    simp only at h1 ⊢; omega
  · split
    · have h1 := put1_bw { d with ln := d.ln ++ [c] } c
      have e : ({ d with ln := d.ln ++ [c] } : D).bw = d.bw + 8 := by unfold D.bw; simp only [List.length_append, List.length_cons, List.length_nil]; omega
      simp only at h1 ⊢; omega
    · have := bell_bw d; simp only; omega
theorem cut_bw (d : D) : d.cutLast.bw ≤ d.bw ∧ d.cutLast.ec = d.ec := ⟨by unfold D.cutLast D.bw; simp only [List.length_dropLast]; omega, rfl⟩
theorem back_bw (d : D) : d.back.bw ≤ d.bw := by
  have := cut_bw d
  unfold D.back; split
  · omega
  · have := (emit_bw d.cutLast (backs (d.pict (d.ln.getLastD 0)).length)).1; omega
theorem backW_bw (p : Int → Bool) : ∀ (n : Nat) (d : D), (D.backW p n d).bw ≤ d.bw
  | 0, d => Nat.le_refl _
  | n + 1, d => by
    rw [D.backW]; split
    · exact Nat.le_trans (backW_bw p n d.back) (back_bw d)
    · omega
theorem backWhile_bw (d : D) (p : Int → Bool) : (d.backWhile p).bw ≤ d.bw ∧ (d.backWhile p).ec.length ≤ d.ec.length + d.bw := by
  have h1 : (d.backWhile p).bw ≤ d.bw := backW_bw p _ d
  have h2 := backWhile_wt d p
  rw [wt_eq, wt_eq] at h2
  omega
theorem ready_bw (d : D) : d.ready.bw ≤ d.bw + 1 ∧ d.ready.ec.length ≤ d.ec.length + 1 := by
  unfold D.ready
  split
  · have h1 := bell_bw d
    have e : ({ d.bell with ln := [] } : D).bw ≤ d.bell.bw := by unfold D.bw; simp only [List.length_nil]; omega
    simp only at *; omega
  · refine ⟨?_, by simp only; omega⟩
    unfold D.bw; simp only [List.length_append, List.length_cons, List.length_nil, sumL_append]; omega
theorem showAll_bw (l : List Int) : ∀ d : D, (d.showAll l).bw = d.bw ∧ (d.showAll l).ec.length ≤ d.ec.length + 2 * l.length := by
  unfold D.showAll
  induction l with
  | nil => intro d; simp
  | cons a l ih =>
    intro d
    rw [List.foldl_cons, List.length_cons]
    have h1 := ih (d.show a); have h2 := show_bw d a; omega
theorem ln_bw (d : D) : d.ln.length * 8 ≤ d.bw := by unfold D.bw; omega
theorem extended_bw (d : D) (c : Int) : (d.extended c).1.bw ≤ d.bw ∧ (d.extended c).1.ec.length ≤ d.ec.length + 2 * d.bw + 4 := by
  unfold D.extended
  split
  · simp only; omega
  split
  · simp only
    split
    · have h1 := emit_bw ({ d with nx := true } : D) [94, 8]
      have e : ({ d with nx := true } : D).bw = d.bw := rfl
      simp at h1; omega
    · have e : ({ d with nx := true } : D).bw = d.bw := rfl
      simp only at e ⊢; omega
  split
  · have h1 := backWhile_bw d blank; have h2 := backWhile_bw (d.backWhile blank) (fun c => !blank c); simp only; omega
  split
  · unfold D.reprint
    have h1 := show_bw d c
    have hl := ln_bw d
    simp only
    split
    · have h2 := emit_bw (d.show c) [10]; have h3 := showAll_bw d.ln ((d.show c).emit [10]); simp at h2; omega
    · have h3 := showAll_bw d.ln (d.show c); omega
  · simp only; omega
theorem kill_bw (d : D) (c : Int) : (d.kill c).bw ≤ d.bw ∧ (d.kill c).ec.length ≤ d.ec.length + d.bw + 3 := by
  unfold D.kill
  have h1 := backWhile_bw d (fun _ => true)
  simp only
  generalize d.backWhile (fun _ => true) = d1 at *
  have h2 : (if (!d1.loc 4) = true then d1.show c else d1).bw = d1.bw ∧ (if (!d1.loc 4) = true then d1.show c else d1).ec.length ≤ d1.ec.length + 2 := by
    split
    · exact show_bw d1 c
    · omega
  generalize (if (!d1.loc 4) = true then d1.show c else d1) = d2 at *
  split
  · have h3 := emit_bw d2 [10]; simp at h3; omega
  · omega
theorem edit_bw (d : D) (c : Int) : (d.edit c).bw ≤ d.bw + 9 ∧ (d.edit c).ec.length ≤ d.ec.length + 2 * d.bw + 10 := by
  unfold D.edit
  have he := extended_bw d c
  have hb : 0 < d.ln.length → d.back.bw ≤ d.bw ∧ d.back.ec.length ≤ d.ec.length + d.bw := fun hl => by
    have h1 := back_bw d
    have h2 := back_wt d (by intro e; rw [e] at hl; simp at hl)
    rw [wt_eq, wt_eq] at h2; omega
  split
  · omega
  split
  · rename_i h; simp at h; have := hb (by omega); omega
  split
  · simp only
    by_cases hl : 0 < d.ln.length
    · rw [if_pos hl]
      have h1 := hb hl
      split
      · have h2 := show_bw d.back c; omega
      · omega
    · rw [if_neg hl]
      split
      · have h2 := show_bw d c; omega
      · omega
  split
  · have := kill_bw d c; omega
  split
  · have := ready_bw d; omega
  have hp := put_bw d c
  split
  · split
    · have := ready_bw (d.put c).1; omega
    · omega
  · omega
theorem flush_bw (d : D) : d.flush.bw ≤ d.bw := by unfold D.flush D.bw sumL; simp
theorem byte_bw (d : D) (c : Int) : (d.byte c).1.bw ≤ d.bw + 9 ∧ (d.byte c).1.ec.length ≤ d.ec.length + 2 * d.bw + 10 := by
  unfold D.byte
  split
  · have h1 := put_bw ({ d with nx := false } : D) (if d.inn 1 = true then c % 128 else c)
    have e : ({ d with nx := false } : D).bw = d.bw := rfl
    simp only at h1 ⊢; omega
  split
  · simp only; omega
  have fw : (d.flow (d.t.map c).1).1.bw = d.bw ∧ (d.flow (d.t.map c).1).1.ec = d.ec := by unfold D.flow; split <;> (try split) <;> (try split) <;> (try split) <;> exact ⟨rfl, rfl⟩
  generalize (d.flow (d.t.map c).1) = fd at *
  generalize (d.t.map c).1 = v at *
  rw [← fw.1, ← fw.2]
  split
  · simp only; omega
  split
  · have h1 := show_bw fd.1 v
    have h2 := flush_bw (fd.1.show v)
    unfold D.sig
    simp only
    split
    · have e : ({ (fd.1.show v).flush with st := false } : D).bw = (fd.1.show v).flush.bw := rfl
      have e2 : ({ (fd.1.show v).flush with st := false } : D).ec = (fd.1.show v).ec := rfl
      rw [e, e2]; omega
    · omega
  split
  · exact edit_bw _ _
  · have := put_bw fd.1 v; simp only; omega
theorem input_bw (d : D) (c : Int) : (d.input c).1.bw ≤ d.bw + 9 ∧ (d.input c).1.ec.length ≤ 2 * d.bw + 10 := by
  have h := byte_bw ({ d with ec := [] } : D) c
  have e : ({ d with ec := [] } : D).bw = d.bw := rfl
  unfold D.input
  simp only [List.length_nil, Nat.zero_add] at h ⊢
  rw [e] at h; exact h
def feedL : List Int → D × List Int × Int → D × List Int × Int
  | [], x => x
  | c :: l, x => feedL l ((x.1.input c).1, x.2.1 ++ (x.1.input c).1.ec, if (x.1.input c).2 ≠ 0 then (x.1.input c).2 else x.2.2)
theorem feedL_app : ∀ (a b : List Int) (x : D × List Int × Int), feedL (a ++ b) x = feedL b (feedL a x)
  | [], b, x => rfl
  | c :: a, b, x => by rw [List.cons_append, feedL, feedL_app a b, feedL]
theorem feedL_bw : ∀ (l : List Int) (x : D × List Int × Int), (feedL l x).1.bw ≤ x.1.bw + 9 * l.length ∧ (feedL l x).2.1.length ≤ x.2.1.length + (2 * (x.1.bw + 9 * l.length) + 10) * l.length
  | [], x => by rw [feedL]; simp
  | c :: l, x => by
    rw [feedL, List.length_cons]
    have h1 := input_bw x.1 c
    obtain ⟨h2, h4⟩ := feedL_bw l ((x.1.input c).1, x.2.1 ++ (x.1.input c).1.ec, if (x.1.input c).2 ≠ 0 then (x.1.input c).2 else x.2.2)
    simp only [List.length_append] at h2 h4
    have m1 : (2 * ((x.1.input c).1.bw + 9 * l.length) + 10) * l.length ≤ (2 * (x.1.bw + 9 * (l.length + 1)) + 10) * l.length := Nat.mul_le_mul_right _ (by omega)
    refine ⟨by omega, ?_⟩
    rw [Nat.mul_add (2 * (x.1.bw + 9 * (l.length + 1)) + 10), Nat.mul_one]; omega
theorem feedL_ec : ∀ (l : List Int) (c : Int) (x : D × List Int × Int), (feedL (c :: l) x).1.ec.length ≤ 2 * (x.1.bw + 9 * l.length) + 10
  | [], c, x => by rw [feedL, feedL]; have := input_bw x.1 c; simp only [List.length_nil]; omega
  | a :: l, c, x => by
    rw [feedL]
    have h := feedL_ec l a ((x.1.input c).1, x.2.1 ++ (x.1.input c).1.ec, if (x.1.input c).2 ≠ 0 then (x.1.input c).2 else x.2.2)
    have h1 := input_bw x.1 c
    rw [List.length_cons]
    simp only at h ⊢; omega
theorem feedL_wt (l : List Int) (x : D × List Int × Int) : (feedL l x).1.wt ≤ 3 * (x.1.wt + 9 * l.length) + 10 := by
  have h1 := (feedL_bw l x).1
  rw [wt_eq, wt_eq]
  cases l with
  | nil => rw [feedL] at *; simp only [List.length_nil] at *; omega
  | cons c l => have h2 := feedL_ec l c x; rw [List.length_cons] at *; omega

section
variable {h0 h : Heap} {F : List HP} {R : Value → Heap → Prop} {k : Nat} {d : D}
theorem feed_spec {u : Value} {l : List Int} (q : HW.Rd (encI .u8) 1 h0 (Dc k d :: F) u l) (q0 : ∀ d', HW.Rd (encI .u8) 1 h0 (Dc k d' :: F) u l) (s : HW.Sep h0 (Dc k d :: F) h) (hl : ∀ c ∈ l, 0 ≤ c ∧ c < 256) (hn : l.length ≤ 1000) (hb : d.wt ≤ 1000000) (H : ∀ v h', HW.Sep h0 (Sl (encI .u8) 1 v (feedL l (d, [], 0)).2.1 :: Dc k (feedL l (d, [], 0)).1 :: F) h' → R (.tuple #[v, .int .i64 (feedL l (d, [], 0)).2.2]) h') : betonylaw18_feed_c (ptr k 0) u h R := by
  apply betonylaw18_feed_runs
  unfold betonylaw18_feed_S
  refine ⟨fun t h' => ∃ (i : Nat) (v : Value), i ≤ l.length ∧ t = (v, .int .i64 (feedL (l.take i) (d, [], 0)).2.2, .int .i64 i) ∧ HW.Sep h0 (Sl (encI .u8) 1 v (feedL (l.take i) (d, [], 0)).2.1 :: Dc k (feedL (l.take i) (d, [], 0)).1 :: F) h', fun t _ => match t.2.2 with | .int _ i => (l.length - i).toNat | _ => 0, ⟨0, .slice none 0 0, Nat.zero_le _, rfl, sep_nil s⟩, ?_⟩
  rintro _ h1 ⟨i, v, hi, rfl, s1⟩
  simp only []
  unfold betonylaw18_feed_l1
  have q1 : Ints .u8 h1 u l := (q0 _).at1 s1
  rw [q1.len, ev_lt, ev_if]
  by_cases hlt : i < l.length
  · rw [if_pos (decide_eq_true (by omega))]
    have hg : l[i]? = some l[i] := List.getElem?_eq_getElem hlt
    have hc := hl l[i] (List.getElem_mem hlt)
    have ht : l.take (i + 1) = l.take i ++ [l[i]] := by rw [List.take_add_one, hg]; rfl
    generalize l[i] = c at hg hc ht
    have hw := feedL_wt (l.take i) (d, [], 0)
    have hb2 := (feedL_bw (l.take i) (d, [], 0))
    have e : feedL (l.take (i + 1)) (d, [], 0) = (((feedL (l.take i) (d, [], 0)).1.input c).1, (feedL (l.take i) (d, [], 0)).2.1 ++ ((feedL (l.take i) (d, [], 0)).1.input c).1.ec, if ((feedL (l.take i) (d, [], 0)).1.input c).2 ≠ 0 then ((feedL (l.take i) (d, [], 0)).1.input c).2 else (feedL (l.take i) (d, [], 0)).2.2) := by rw [ht, feedL_app]; rfl
    have hbd := wt_eq d
    rw [List.length_take] at hw hb2
    generalize feedL (l.take i) (d, [], 0) = x at s1 hw hb2 e
    obtain ⟨d1, o, sg⟩ := x
    simp only at s1 hw hb2 e
    have mm : (2 * (d.bw + 9 * min i l.length) + 10) * min i l.length ≤ (2 * (1000000 + 9 * 1000) + 10) * 1000 := Nat.mul_le_mul (by omega) (by omega)
    simp only [List.length_nil] at hb2
    rw [Seq.ld q1 hg rfl]
    have hec := input_bw d1 c
    have hbw := wt_eq d1
    refine input_spec s1.b1 hc (by omega) (fun v2 h2 s2 qe => ?_)
    rw [tup0, tup1]
    refine s2.b1.app (enc := encI .u8) (sz := 1) rfl (by decide) (encI_len .u8) (encI_cell .u8) qe (by omega) (by decide) (fun v3 h3 cv3 s3 => ?_)
    rw [ev_ne, ev_if]
    unfold betonylaw18_feed_j2
    by_cases hs : (d1.input c).2 ≠ 0
    · rw [if_pos hs] at e
      rw [if_pos (by simpa using hs), ev_add, wrap_i64 (by omega) (by omega)]
      refine ⟨⟨i + 1, v3, hlt, by rw [e, Int.natCast_add]; rfl, ?_⟩, by simp only; omega⟩
      rw [e]; exact s3
    · rw [if_neg hs] at e
      rw [if_neg (by simpa using hs), ev_add, wrap_i64 (by omega) (by omega)]
      refine ⟨⟨i + 1, v3, hlt, by rw [e, Int.natCast_add]; rfl, ?_⟩, by simp only; omega⟩
      rw [e]; exact s3
  · have : i = l.length := by omega
    subst this
    rw [if_neg (by simp)]
    rw [List.take_of_length_le (Nat.le_refl _)] at s1 ⊢
    exact H v h1 s1
theorem awake18 (H : ∀ h', Ext h h' → R (.bool true) h') : betonylaw18_awake_c h R := by
  apply betonylaw18_awake_runs
  unfold betonylaw18_awake_S
  refine rplain_spec (fun h1 e1 => ?_)
  have hr : plainT.right = true := by decide +kernel
  refine new_spec (t := plainT) ((HW.Sep.start h).ext' e1) (fun hf => by rw [hr] at hf; cases hf) (fun _ k h2 s2 => ?_)
  have ee : ∀ {k : Nat} {K : Value → Prop}, sEqlNil (ptr k 0) K = K (.bool false) := by intro k K; simp only [ptr, ev_eqlNil, Option.isNone_some]
  rw [ee, ev_if, if_neg (by decide)]
  refine s2.slit (enc := encI .u8) (sz := 1) (encI_len .u8) [97, 98, 127, 99, 13] rfl ⟨rfl, Nat.le_of_ble_eq_true rfl, rfl, Nat.le_of_ble_eq_true rfl, rfl, Nat.le_of_ble_eq_true rfl, rfl, Nat.le_of_ble_eq_true rfl, rfl, Nat.le_of_ble_eq_true rfl, rfl⟩ (fun v h3 cv s3 => ?_)
  refine feed_spec (l := [97, 98, 127, 99, 13]) Rd.own1 (fun d' => Rd.own1) s3.b1 (by decide) (by decide) (by decide) (fun v2 h4 s4 => ?_)
  rw [tup0, tup1]
  have e0 : (feedL [97, 98, 127, 99, 13] (D0 plainT, [], 0)).2.1 = [97, 98, 8, 32, 8, 99, 10] := by decide +kernel
  have es : (feedL [97, 98, 127, 99, 13] (D0 plainT, [], 0)).2.2 = 0 := by decide +kernel
  have er : ((feedL [97, 98, 127, 99, 13] (D0 plainT, [], 0)).1.read 9).2 = ([97, 99, 10], false) := by decide +kernel
  rw [e0] at s4
  rw [es]
  refine read_spec s4.b1 (by have := feedL_wt [97, 98, 127, 99, 13] (D0 plainT, [], 0); have e : (D0 plainT).wt = 0 := rfl; simp only [List.length_cons, List.length_nil] at this; omega) (fun v3 h5 s5 => ?_)
  rw [er] at s5 ⊢
  rw [tup0, tup1]
  refine s5.slit (enc := encI .u8) (sz := 1) (encI_len .u8) [97, 98, 8, 32, 8, 99, 10] rfl (fill_k (by kernel_rfl)) (fun v4 h6 cv4 s6 => ?_)
  refine same_spec (k := .u8) (by decide) s6.b3.seq s6.seq ?_
  rw [decide_eq_true rfl, ev_and, if_pos rfl, ev_eq]
  refine and_ext (y := true) (fun _ K' HK => ?_) (fun h7 e7 => ?_)
  · refine (HW.Sep.start h6).slit (enc := encI .u8) (sz := 1) (encI_len .u8) [97, 99, 10] rfl ⟨rfl, Nat.le_of_ble_eq_true rfl, rfl, Nat.le_of_ble_eq_true rfl, rfl, Nat.le_of_ble_eq_true rfl, rfl⟩ (fun v5 h8 cv5 s7 => ?_)
    refine same_spec (k := .u8) (l := [97, 99, 10]) (by decide) (s6.b1.seq.ext s7.ext) s7.seq ?_
    rw [decide_eq_true rfl]; exact HK _ s7.ext
  · show sAnd (.bool true) (fun k => sNot (.bool false) fun x35 => k x35) _
    rw [ev_and, if_pos rfl, ev_not]
    exact H _ (s6.ext.trans e7)
end
end Go.Proofs.Ytlcklnbgknhhkaa

end

section
/- The line discipline, plain: what plain bytes do with the plain setting. -/
set_option linter.unusedSimpArgs false
set_option linter.unusedVariables false
namespace Go.Proofs.Ytlcklnbgknhhkaa
open Go Go.HW

/-- The plain setting, with other local flags. -/
def plT (l : Int) : Tm := ⟨84, 3, l, plainCc, 1, 0⟩
theorem plT_plain : plT 623 = plainT := rfl
def plB (c : Int) : Bool := (plT 0).map c == (c, true) && (List.range 12).all fun w => !(plT 0).is (w : Int) c
theorem plB_all : ∀ c : Fin 256, 32 ≤ c.val → c.val ≤ 126 → plB (c.val : Int) = true := by decide +kernel
theorem pl_map {l c : Int} (hc : 32 ≤ c ∧ c ≤ 126) : (plT l).map c = (c, true) := by
  have := plB_all ⟨c.toNat, by omega⟩ (by simp only; omega) (by simp only; omega)
  simp only at this
  rw [Int.toNat_of_nonneg (by omega)] at this
  unfold plB at this
  rw [Bool.and_eq_true] at this
  have h := beq_iff_eq.1 this.1
  exact h
theorem pl_is {l c w : Int} (hc : 32 ≤ c ∧ c ≤ 126) (hw : 0 ≤ w ∧ w < 12) : (plT l).is w c = false := by
  have := plB_all ⟨c.toNat, by omega⟩ (by simp only; omega) (by simp only; omega)
  simp only at this
  rw [Int.toNat_of_nonneg (by omega)] at this
  unfold plB at this
  rw [Bool.and_eq_true, List.all_eq_true] at this
  have h := this.2 w.toNat (List.mem_range.2 (by omega))
  rw [Int.toNat_of_nonneg hw.1] at h
  have h2 : (plT 0).is w c = false := by simpa using h
  exact h2
/-- Local flags of lines that are edited, and shown. -/
def okL (l : Int) : Prop := hasB l 1 = true ∧ hasB l 2 = true ∧ hasB l 4 = true ∧ hasB l 32 = true ∧ hasB l 64 = true ∧ hasB l 512 = true ∧ hasB l 16 = false
theorem ok623 : okL 623 := by unfold okL; decide +kernel
theorem ok751 : okL 751 := by unfold okL; decide +kernel
theorem in16 : hasB 84 16 = true := by decide +kernel
theorem in32 : hasB 84 32 = false := by decide +kernel
theorem in1 : hasB 84 1 = false := by decide +kernel
theorem in64 : hasB 84 64 = true := by decide +kernel
theorem flow_pl {d : D} {l c : Int} (ht : d.t = plT l) (h11 : (plT l).is 11 c = false) (h10 : (plT l).is 10 c = false) : d.flow c = (d, false) := by
  unfold D.flow D.inn
  rw [ht, h11, h10]
  have e : (plT l).i = 84 := rfl
  rw [e, in16, in32]; rfl
theorem signal_pl {d : D} {l c : Int} (ht : d.t = plT l) (h : ∀ w : Int, 0 ≤ w ∧ w < 3 → (plT l).is w c = false) : d.signal c = 0 := by
  unfold D.signal
  rw [ht, h 0 (by omega), h 1 (by omega), h 2 (by omega)]
  split <;> rfl
theorem ext_pl {d : D} {l c : Int} (ht : d.t = plT l) (h9 : (plT l).is 9 c = false) (h7 : (plT l).is 7 c = false) (h8 : (plT l).is 8 c = false) : d.extended c = (d, false) := by
  unfold D.extended
  rw [ht, h9, h7, h8]
  split <;> rfl
theorem pict_pl {d : D} {c : Int} (hc : 32 ≤ c ∧ c ≤ 126) : d.pict c = [c] := by
  unfold D.pict
  rw [if_neg]
  simp only [Bool.and_eq_true, Bool.or_eq_true, decide_eq_true_eq, bne_iff_ne, beq_iff_eq]
  omega
theorem put_pl {d : D} {l c : Int} (ht : d.t = plT l) (hl : okL l) (hc : 32 ≤ c ∧ c ≤ 126) (hn : d.ln.length < 254) : d.put c = ({ d with ln := d.ln ++ [c], ec := d.ec ++ [c] }, true) := by
  obtain ⟨l1, l2, l4, l32, l64, l512, l16⟩ := hl
  have e1 : d.loc 1 = true := by unfold D.loc; rw [ht]; exact l1
  have e2 : ({ d with ln := d.ln ++ [c] } : D).loc 2 = true := by unfold D.loc; simp only; rw [ht]; exact l2
  have ec : (c == 10) = false := by simp; omega
  unfold D.put
  rw [e1, if_neg (by simp), if_pos (by simp [hn])]
  unfold D.put1 D.show
  rw [ec]
  simp only [Bool.false_and, Bool.false_eq_true, if_false]
  rw [e2, if_pos rfl, pict_pl hc]; rfl
theorem edit_put {d : D} {l c : Int} (ht : d.t = plT l) (ee : d.extended c = (d, false)) (h5 : (plT l).is 5 c = false) (h6 : (plT l).is 6 c = false) (h3 : (plT l).is 3 c = false) (he : d.ends c = false) : d.edit c = (d.put c).1 := by
  unfold D.edit
  rw [ee, ht, h5, h6, h3, he]
  simp
theorem edit_back {d : D} {l c : Int} (ht : d.t = plT l) (ee : d.extended c = (d, false)) (h5 : (plT l).is 5 c = true) (hp : 0 < d.ln.length) (h4 : d.loc 4 = true) : d.edit c = d.back := by
  unfold D.edit
  rw [ee, ht, h5, h4]
  simp [hp]
theorem in_pl {d : D} {l c : Int} (ht : d.t = plT l) (hl : okL l) (hx : d.nx = false) (hc : 32 ≤ c ∧ c ≤ 126) (hn : d.ln.length < 254) : d.input c = ({ d with ln := d.ln ++ [c], ec := [c] }, 0) := by
  obtain ⟨t, ln, ls, ra, st, nx, ec⟩ := d
  simp only at ht hx hn ⊢
  subst ht
  subst hx
  have hI := fun w hw => pl_is (l := l) (c := c) (w := w) hc hw
  have hp : (⟨plT l, ln, ls, ra, st, false, []⟩ : D).put c = (⟨plT l, ln ++ [c], ls, ra, st, false, [c]⟩, true) := put_pl (d := ⟨plT l, ln, ls, ra, st, false, []⟩) rfl hl hc hn
  show D.byte ⟨plT l, ln, ls, ra, st, false, []⟩ c = (⟨plT l, ln ++ [c], ls, ra, st, false, [c]⟩, 0)
  unfold D.byte
  have em : (⟨plT l, ln, ls, ra, st, false, []⟩ : D).t.map c = (c, true) := by exact pl_map hc
  have ef : (⟨plT l, ln, ls, ra, st, false, []⟩ : D).flow c = (⟨plT l, ln, ls, ra, st, false, []⟩, false) := flow_pl (d := ⟨plT l, ln, ls, ra, st, false, []⟩) rfl (hI 11 (by omega)) (hI 10 (by omega))
  have es : (⟨plT l, ln, ls, ra, st, false, []⟩ : D).signal c = 0 := signal_pl (d := ⟨plT l, ln, ls, ra, st, false, []⟩) rfl (fun w hw => hI w (by omega))
  have e1 : (⟨plT l, ln, ls, ra, st, false, []⟩ : D).loc 1 = true := by exact hl.1
  have ee := ext_pl (d := ⟨plT l, ln, ls, ra, st, false, []⟩) (c := c) rfl (hI 9 (by omega)) (hI 7 (by omega)) (hI 8 (by omega))
  rw [if_neg (show ¬ (⟨plT l, ln, ls, ra, st, false, []⟩ : D).nx = true from Bool.false_ne_true), em]
  simp only
  rw [if_neg (by decide), ef]
  simp only
  rw [if_neg (by decide), es, if_neg (by simp), e1, if_pos rfl]
  have een : (⟨plT l, ln, ls, ra, st, false, []⟩ : D).ends c = false := by
    unfold D.ends
    have e4 : (⟨plT l, ln, ls, ra, st, false, []⟩ : D).t.is 4 c = false := hI 4 (by omega)
    have ec : (c == 10) = false := by simp; omega
    rw [ec, e4]; rfl
  rw [edit_put rfl ee (hI 5 (by omega)) (hI 6 (by omega)) (hI 3 (by omega)) een, hp]
/-- The last byte, a plain one, is taken back. -/
theorem in_erase {d : D} {l : Int} (ht : d.t = plT l) (hl : okL l) (hx : d.nx = false) (hne : d.ln ≠ []) (hp : 32 ≤ d.ln.getLastD 0 ∧ d.ln.getLastD 0 ≤ 126) : d.input 127 = ({ d with ln := d.ln.dropLast, ec := [8, 32, 8] }, 0) := by
  obtain ⟨t, ln, ls, ra, st, nx, ec⟩ := d
  simp only at ht hx hne hp ⊢
  subst ht
  subst hx
  have hm : (plT l).map 127 = (127, true) := by show (plT 0).map 127 = _; decide +kernel
  have hI : ∀ w : Int, 0 ≤ w ∧ w < 12 → w ≠ 5 → (plT l).is w 127 = false := by
    intro w hw h5
    have key : ∀ w : Fin 12, w.val ≠ 5 → (plT 0).is (w.val : Int) 127 = false := by decide +kernel
    have := key ⟨w.toNat, by omega⟩ (by simp only; omega)
    simp only at this
    rw [Int.toNat_of_nonneg hw.1] at this
    exact this
  have h5 : (plT l).is 5 127 = true := by show (plT 0).is 5 127 = _; decide +kernel
  show D.byte ⟨plT l, ln, ls, ra, st, false, []⟩ 127 = (⟨plT l, ln.dropLast, ls, ra, st, false, [8, 32, 8]⟩, 0)
  unfold D.byte
  have em : (⟨plT l, ln, ls, ra, st, false, []⟩ : D).t.map 127 = (127, true) := by exact hm
  have ef : (⟨plT l, ln, ls, ra, st, false, []⟩ : D).flow 127 = (⟨plT l, ln, ls, ra, st, false, []⟩, false) := flow_pl (d := ⟨plT l, ln, ls, ra, st, false, []⟩) rfl (hI 11 (by omega) (by omega)) (hI 10 (by omega) (by omega))
  have es : (⟨plT l, ln, ls, ra, st, false, []⟩ : D).signal 127 = 0 := signal_pl (d := ⟨plT l, ln, ls, ra, st, false, []⟩) rfl (fun w hw => hI w (by omega) (by omega))
  have e1 : (⟨plT l, ln, ls, ra, st, false, []⟩ : D).loc 1 = true := by exact hl.1
  have ee := ext_pl (d := ⟨plT l, ln, ls, ra, st, false, []⟩) (c := 127) rfl (hI 9 (by omega) (by omega)) (hI 7 (by omega) (by omega)) (hI 8 (by omega) (by omega))
  rw [if_neg (show ¬ (⟨plT l, ln, ls, ra, st, false, []⟩ : D).nx = true from Bool.false_ne_true), em]
  simp only
  rw [if_neg (by decide), ef]
  simp only
  rw [if_neg (by decide), es, if_neg (by simp), e1, if_pos rfl]
  have e4 : (⟨plT l, ln, ls, ra, st, false, []⟩ : D).loc 4 = true := hl.2.2.1
  have e2 : (⟨plT l, ln, ls, ra, st, false, []⟩ : D).loc 2 = true := hl.2.1
  have hpos : 0 < ln.length := by
    cases ln with
    | nil => exact (hne rfl).elim
    | cons a b => simp
  rw [edit_back rfl ee h5 hpos e4]
  unfold D.back
  rw [e2, e4, if_neg (by decide)]
  have hq : (⟨plT l, ln, ls, ra, st, false, []⟩ : D).pict (ln.getLastD 0) = [ln.getLastD 0] := pict_pl hp
  show (((⟨plT l, ln, ls, ra, st, false, []⟩ : D).cutLast.emit (backs ((⟨plT l, ln, ls, ra, st, false, []⟩ : D).pict (ln.getLastD 0)).length)), (0 : Int)) = _
  rw [hq]; rfl
def lett (x : Int) : Int := 97 + x % 26
theorem lett_rng {x : Int} : 97 ≤ lett x ∧ lett x ≤ 122 := by unfold lett; omega
theorem ev_lett {x : Int} {K : Value → Prop} (hx : 0 ≤ x ∧ x < 256) : (sRem .u8 (.int .u8 x) (.int .u8 26) fun x57 => sAdd .u8 (.int .u8 97) x57 K) = K (.int .u8 (lett x)) := by
  rw [ev_rem (by decide), Int.tmod_eq_emod_of_nonneg hx.1, ev_add]
  have e : IntKind.u8.wrap (97 + x % 26) = lett x := by unfold IntKind.wrap lett; simp [IntKind.signed, IntKind.bits]; omega
  rw [e]
theorem last_mem {l : List Int} (hne : l ≠ []) : l.getLastD 0 ∈ l := by
  have hp : 0 < l.length := by cases hd : l with
    | nil => exact (hne hd).elim
    | cons a b => simp
  have hg : l[l.length - 1]? = some (l.getLastD 0) := by
    rw [List.getLastD_eq_getLast?, List.getLast?_eq_getElem?, List.getElem?_eq_getElem (by omega)]; rfl
  exact List.mem_of_getElem? hg
end Go.Proofs.Ytlcklnbgknhhkaa

end
