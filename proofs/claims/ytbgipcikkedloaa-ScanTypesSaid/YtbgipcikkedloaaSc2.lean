/- Scancodes: a key's bytes. -/
import Derived.Test.YtbgipcikkedloaaSc
set_option linter.unusedSimpArgs false
namespace Go.Proofs.Ytbgipcikkedloaa
open Go Go.HW

def tb (l : List Int) (i : Int) : Int := l.getD i.toNat 0
def digs : List Int := [49, 50, 51, 52, 53, 54, 55, 56, 57, 48]
def digU : List Int := [33, 64, 35, 36, 37, 94, 38, 42, 40, 41]
def sgns : List Int := [45, 61, 91, 93, 92, 59, 39, 44, 46, 47, 96]
def sgnU : List Int := [95, 43, 123, 125, 124, 58, 34, 60, 62, 63, 126]
def nmd : List Int := [32, 13, 127, 9, 27]
def arw : List Int := [65, 66, 67, 68, 72, 70]
def pgs : List Int := [53, 54, 50, 51]
def fns : List Int := [80, 81, 82, 83]
def plainB (c : Int) (sh ct app : Bool) : List Int :=
  if 1 ≤ c ∧ c ≤ 26 then [if ct = true then c else if sh = true then 64 + c else 96 + c]
  else if 27 ≤ c ∧ c ≤ 36 then [tb (if sh = true then digU else digs) (c - 27)]
  else if c = 37 ∧ ct = true then [0]
  else if c = 40 ∧ sh = true then [27, 91, 90]
  else if 37 ≤ c ∧ c < 42 then [tb nmd (c - 37)]
  else if 42 ≤ c ∧ c ≤ 52 then [tb (if sh = true then sgnU else sgns) (c - 42)]
  else if 64 ≤ c ∧ c < 70 then [27, if app = true then 79 else 91, tb arw (c - 64)]
  else if 70 ≤ c ∧ c ≤ 73 then [27, 91, tb pgs (c - 70), 126]
  else if 80 ≤ c ∧ c ≤ 83 then [27, 79, tb fns (c - 80)]
  else []
def plainM (c m : Int) (app : Bool) : List Int := plainB c (hasB m 1) (hasB m 2) app
def bytesM (c m : Int) (app : Bool) : List Int := if (decide (0 < ((plainM c m app).length : Int)) && hasB m 4) = true then 27 :: plainM c m app else plainM c m app
theorem plainB_len (c : Int) (sh ct app : Bool) : (plainB c sh ct app).length ≤ 4 := by
  unfold plainB; repeat' split
  all_goals simp
theorem bytesM_len (c m : Int) (app : Bool) : (bytesM c m app).length ≤ 5 := by
  have := plainB_len c (hasB m 1) (hasB m 2) app
  unfold bytesM plainM; split
  · simp; omega
  · omega

theorem ixB {s : ByteArray} {q : IntKind} {j : Int} {n : Nat} {b : UInt8} {K : Value → Prop} (hj : j = n) (hb : s[n]? = some b) : sIxB (.string s) (.int q j) K = K (.int .u8 b.toNat) := by
  subst hj
  exact propext ⟨fun ⟨_, _, _, _, e1, e2, _, e3, x⟩ => by cases e1; cases e2; rw [Int.toNat_natCast, hb] at e3; cases e3; exact x, fun x => ⟨_, _, _, _, rfl, rfl, by omega, by rw [Int.toNat_natCast]; exact hb, x⟩⟩
/-- A text against a table. -/
theorem ixT {s : ByteArray} {q : IntKind} {j : Int} {l : List Int} {K : Value → Prop} (h0 : 0 ≤ j) (h1 : j < l.length) (hs : ∀ n : Nat, n < l.length → ∃ b : UInt8, s[n]? = some b ∧ (b.toNat : Int) = l.getD n 0) : sIxB (.string s) (.int q j) K = K (.int .u8 (tb l j)) := by
  obtain ⟨n, rfl⟩ := Int.eq_ofNat_of_zero_le h0
  obtain ⟨b, hb, he⟩ := hs n (by omega)
  rw [ixB rfl hb, he]; rfl
def matchT (s : ByteArray) (l : List Int) : Bool := s.size == l.length && (List.range l.length).all fun n => match s.data[n]? with | some b => (b.toNat : Int) == l.getD n 0 | none => false
theorem matchT_spec {s : ByteArray} {l : List Int} (h : matchT s l = true) : ∀ n : Nat, n < l.length → ∃ b : UInt8, s[n]? = some b ∧ (b.toNat : Int) = l.getD n 0 := by
  intro n hn
  unfold matchT at h
  simp only [Bool.and_eq_true, List.all_eq_true, List.mem_range, beq_iff_eq] at h
  have := h.2 n hn
  have hsz : n < s.size := by omega
  refine ⟨s[n], by simp [hsz], ?_⟩
  have e : s.data[n]? = some s[n] := by
    have : n < s.data.size := hsz
    rw [Array.getElem?_eq_getElem this]; rfl
  rw [e] at this
  simpa using this

section
variable {h0 h : Heap} {F : List HP} {R : Value → Heap → Prop}
theorem slit1 {x : Int} {K : Value → Heap → Prop} (H : ∀ v h', Ext h h' → Ints .u8 h' v [x] → K v h') : sSlit h #[.int .u8 0] [(0, 1, .int .u8 x)] 5 1 K :=
  (HW.Sep.start h).slit (enc := encI .u8) (sz := 1) (encI_len _) [x] rfl ⟨rfl, Nat.le_of_ble_eq_true rfl, rfl⟩ fun v h' _ s => H v h' s.ext s.seq
theorem slit3 {x y z : Int} {K : Value → Heap → Prop} (H : ∀ v h', Ext h h' → Ints .u8 h' v [x, y, z] → K v h') : sSlit h #[.int .u8 0, .int .u8 0, .int .u8 0] [(0, 1, .int .u8 x), (1, 1, .int .u8 y), (2, 1, .int .u8 z)] 5 3 K :=
  (HW.Sep.start h).slit (enc := encI .u8) (sz := 1) (encI_len _) [x, y, z] rfl (fill_k (by kernel_rfl)) fun v h' _ s => H v h' s.ext s.seq
theorem slit4 {x y z t : Int} {K : Value → Heap → Prop} (H : ∀ v h', Ext h h' → Ints .u8 h' v [x, y, z, t] → K v h') : sSlit h #[.int .u8 0, .int .u8 0, .int .u8 0, .int .u8 0] [(0, 1, .int .u8 x), (1, 1, .int .u8 y), (2, 1, .int .u8 z), (3, 1, .int .u8 t)] 5 4 K :=
  (HW.Sep.start h).slit (enc := encI .u8) (sz := 1) (encI_len _) [x, y, z, t] rfl (fill_k (by kernel_rfl)) fun v h' _ s => H v h' s.ext s.seq
theorem ints_nil : Ints .u8 h (.slice none 0 0) [] := ⟨none, 0, 0, rfl, rfl, Nat.le_refl _, .inl rfl⟩
theorem letter_spec {n m : Int} (hn : 0 ≤ n ∧ n ≤ 25) (H : ∀ v h', Ext h h' → Ints .u8 h' v [if hasB m 2 = true then n + 1 else if hasB m 1 = true then 65 + n else 97 + n] → R v h') : scan_letter_c (.int .i64 n) (.int .i64 m) h R := by
  apply scan_letter_runs
  unfold scan_letter_S
  have hh : ∀ f, (bitsOf .and .i64 m f != 0) = hasB m f := fun _ => rfl
  simp only [ev_bits, ev_ne, hh, ev_if, ev_add, ev_conv]
  rw [wrap_i64 (by omega) (by omega), wrap_i64 (x := 65 + n) (by omega) (by omega), wrap_i64 (x := 97 + n) (by omega) (by omega), wrap_u8 (by omega) (by omega), wrap_u8 (x := 65 + n) (by omega) (by omega), wrap_u8 (x := 97 + n) (by omega) (by omega)]
  split
  · rename_i h1; rw [h1] at H; exact slit1 H
  · rename_i h1; rw [show hasB m 2 = false by simpa using h1] at H
    split
    · rename_i h2; rw [h2] at H; exact slit1 H
    · rename_i h2; rw [show hasB m 1 = false by simpa using h2] at H; exact slit1 H
theorem pick_spec {p u : ByteArray} {lp lu : List Int} {j : Int} {up : Bool} (hp : matchT p lp = true) (hu : matchT u lu = true) (h0 : 0 ≤ j) (h1 : j < lp.length) (h2 : j < lu.length) (H : ∀ v h', Ext h h' → Ints .u8 h' v [tb (if up = true then lu else lp) j] → R v h') : scan_pick_c (.string p) (.string u) (.int .i64 j) (.bool up) h R := by
  apply scan_pick_runs
  unfold scan_pick_S
  rw [ev_if]
  cases up with
  | true => rw [if_pos rfl, ixT h0 h2 (matchT_spec hu)]; exact slit1 H
  | false => rw [if_neg (by decide), ixT h0 h1 (matchT_spec hp)]; exact slit1 H
theorem plain_spec {c m : Int} {app : Bool} (H : ∀ v h', Ext h h' → Ints .u8 h' v (plainM c m app) → R v h') : scan_plain_c (.agg (keyA c m)) (.bool app) h R := by
  apply scan_plain_runs
  unfold scan_plain_S
  refine (HW.Sep.start h).box (c := keyA c m) rfl (fun k h1 s1 => ?_)
  have f0 : ∀ {K : Value → Prop}, sLd h1 (ptr k 0) K = K (.int .i64 c) := s1.ld rfl
  have f1 : ∀ {K : Value → Prop}, sLd h1 (ptr k 1) K = K (.int .i64 m) := s1.ld rfl
  have hh : ∀ f, (bitsOf .and .i64 m f != 0) = hasB m f := fun _ => rfl
  have H : ∀ v h', Ext h1 h' → Ints .u8 h' v (plainB c (hasB m 1) (hasB m 2) app) → R v h' := fun v h' e => H v h' (s1.ext.trans e)
  simp only [ev_off, Nat.zero_add, f0, f1, ev_bits, ev_ne, hh, ev_ge, ev_le, ev_lt, ev_eq, ev_and_p, ev_if, ev_sub]
  simp only [Bool.and_eq_true, decide_eq_true_eq, beq_iff_eq]
  unfold plainB at H
  by_cases c1 : 1 ≤ c ∧ c ≤ 26
  · rw [if_pos c1] at H
    rw [if_pos c1, wrap_i64 (by omega) (by omega)]
    refine letter_spec (by omega) (fun v h2 e2 hv => H v h2 e2 ?_)
    have : (if hasB m 2 = true then c - 1 + 1 else if hasB m 1 = true then 65 + (c - 1) else 97 + (c - 1)) = (if hasB m 2 = true then c else if hasB m 1 = true then 64 + c else 96 + c) := by
      split
      · omega
      · split <;> omega
    rwa [this] at hv
  rw [if_neg c1] at H ⊢
  by_cases c2 : 27 ≤ c ∧ c ≤ 36
  · rw [if_pos c2] at H
    rw [if_pos c2, wrap_i64 (by omega) (by omega)]
    exact pick_spec (lp := digs) (lu := digU) (by decide +kernel) (by decide +kernel) (by omega) (by show c - 27 < 10; omega) (by show c - 27 < 10; omega) H
  rw [if_neg c2] at H ⊢
  by_cases c3 : c = 37 ∧ hasB m 2 = true
  · rw [if_pos c3] at H
    rw [if_pos c3]
    exact slit1 H
  rw [if_neg c3] at H ⊢
  by_cases c4 : c = 40 ∧ hasB m 1 = true
  · rw [if_pos c4] at H
    rw [if_pos c4]
    refine (HW.Sep.start h1).slit (enc := encI .u8) (sz := 1) (encI_len _) [27, 91, 90] rfl (fill_k (by kernel_rfl)) fun v h2 _ s2 => ?_
    exact s2.mark (by simp) fun h3 s3 => H v h3 s3.ext s3.roseq
  rw [if_neg c4] at H ⊢
  by_cases c5 : 37 ≤ c ∧ c < 42
  · rw [if_pos c5] at H
    rw [if_pos c5, wrap_i64 (by omega) (by omega), ixT (l := nmd) (by omega) (by show c - 37 < 5; omega) (matchT_spec (by decide +kernel))]
    exact slit1 H
  rw [if_neg c5] at H ⊢
  by_cases c6 : 42 ≤ c ∧ c ≤ 52
  · rw [if_pos c6] at H
    rw [if_pos c6, wrap_i64 (by omega) (by omega)]
    exact pick_spec (lp := sgns) (lu := sgnU) (by decide +kernel) (by decide +kernel) (by omega) (by show c - 42 < 11; omega) (by show c - 42 < 11; omega) H
  rw [if_neg c6] at H ⊢
  by_cases c7 : 64 ≤ c ∧ c < 70
  · rw [if_pos c7] at H
    rw [wrap_i64 (x := c - 64) (by omega) (by omega)]
    cases app with
    | true =>
      rw [if_pos ⟨c7, rfl⟩, ixT (l := arw) (by omega) (by show c - 64 < 6; omega) (matchT_spec (by decide +kernel))]
      exact slit3 H
    | false =>
      rw [if_neg (by simp), if_pos c7, ixT (l := arw) (by omega) (by show c - 64 < 6; omega) (matchT_spec (by decide +kernel))]
      exact slit3 H
  rw [if_neg c7] at H
  rw [if_neg (fun x => c7 x.1), if_neg c7]
  by_cases c8 : 70 ≤ c ∧ c ≤ 73
  · rw [if_pos c8] at H
    rw [if_pos c8, wrap_i64 (by omega) (by omega), ixT (l := pgs) (by omega) (by show c - 70 < 4; omega) (matchT_spec (by decide +kernel))]
    exact slit4 H
  rw [if_neg c8] at H ⊢
  by_cases c9 : 80 ≤ c ∧ c ≤ 83
  · rw [if_pos c9] at H
    rw [if_pos c9, wrap_i64 (by omega) (by omega), ixT (l := fns) (by omega) (by show c - 80 < 4; omega) (matchT_spec (by decide +kernel))]
    exact slit3 H
  rw [if_neg c9] at H ⊢
  exact H _ _ (Ext.refl _) ints_nil
theorem bytes_spec {c m : Int} {app : Bool} (H : ∀ v h', Ext h h' → Ints .u8 h' v (bytesM c m app) → R v h') : scan_Bytes_c (.agg (keyA c m)) (.bool app) h R := by
  apply scan_Bytes_runs
  unfold scan_Bytes_S
  refine (HW.Sep.start h).box (c := keyA c m) rfl (fun k h1 s1 => ?_)
  rw [s1.ldall (n := 2) rfl]
  refine plain_spec (fun v h2 e2 hv => ?_)
  have s2 := s1.ext' e2
  have f1 : ∀ {K : Value → Prop}, sLd h2 (ptr k 1) K = K (.int .i64 m) := s2.ld rfl
  have hh : ∀ f, (bitsOf .and .i64 m f != 0) = hasB m f := fun _ => rfl
  rw [hv.len]
  simp only [ev_gt, ev_off, Nat.zero_add, f1, ev_bits, ev_ne, hh, ev_and_p, ev_if]
  unfold bytesM at H
  split
  · rename_i h1; rw [if_pos h1] at H
    refine (HW.Sep.start h2).slit (enc := encI .u8) (sz := 1) (encI_len _) [27] rfl ⟨rfl, Nat.le_of_ble_eq_true rfl, rfl⟩ fun v3 h3 _ s3 => ?_
    have := plainB_len c (hasB m 1) (hasB m 2) app
    refine s3.app (enc := encI .u8) (sz := 1) rfl (by decide) (encI_len _) (encI_cell _) (hv.ext s3.ext) (by unfold plainM; simp only [List.length_cons, List.length_nil]; omega) (by decide) fun v4 h4 _ s4 => H v4 h4 (s2.ext.trans s4.ext) s4.seq
  · rename_i h1; rw [if_neg h1] at H
    exact H v h2 s2.ext hv
end
end Go.Proofs.Ytbgipcikkedloaa
